/- Parts of a proof: what its theorem reaches, words cut short. No condition of its own. -/
import Derived.Test.YtkiebccnpheloaaGreatPk19
set_option maxRecDepth 100000
set_option maxHeartbeats 16000000
set_option linter.unusedVariables false
set_option linter.unusedSimpArgs false
namespace Go.Proofs.YtkiebccnpheloaaGreat.D
open Go.RowKit
theorem jZ{l:List Pr}(hp:gQ l)(j:Nat):0<=tot (l.take j)/\tot (l.take j)<=tot l:=by
 have e:tot l=tot (l.take j)+tot (l.drop j):=by rw[<-dS,List.take_append_drop]
 have h1:=dL (l:=l.take j) (fun p h=>hp p (List.mem_of_mem_take h))
 have h2:=dL (l:=l.drop j) (fun p h=>hp p (List.mem_of_mem_drop h))
 omega
theorem iy{l:List Pr}{j:Nat}(hj:j<l.length):tot (l.take (j+1))=tot (l.take j)+l[j].2:=by rw[aT hj,dS];simp
theorem l_(v:Value)(l:List Pr)(w:World)(h:gz fU w v l)(hp:gQ l)(ht:tot l<=9223372036854775807)(hl:l.length<=1000000000) :
 Calls Tryz.prog 127 #[v] w fun e w'=>e=.returned (.int .u64 (tot l))/\w=w':=by
 obtain⟨A,c,rfl,_,_,hf⟩:=h.form;have HF:=aB hf;have HB:Hid (∀j,0<=tot (l.take j)/\tot (l.take j)<=9223372036854775807):=aB (fun j=>by have:=jZ hp j;omega)
 clear h hf hp
 go_enter Tryz.func127,Tryz.ntmps127
 go_wp2_with fail
 go_loopg [3,4] l.length (fun q s x wr=>(∃j:Nat,q=l.length - j/\j<=l.length/\x=.int .i64 j/\s=.int .u64 (tot (l.take j)))/\w=wr)
 case atStart=>exact⟨⟨0,rfl,ae,rfl,rfl⟩,rfl⟩
 case round=>
  obtain⟨⟨j,hq,hj,rfl,rfl⟩,rfl⟩:=hrel;have HQ:=aB hq;clear hq
  by_cases hlt:j<l.length
  ·obtain⟨g,off,rfl,hg,c0,c1⟩:=kY HF.out hlt
   have HS:=aB (iy hlt);have b1:=HB.out j;have b2:=HB.out (j+1);rw[HS.out] at b2;have hji:(j:Int)<(l.length:Int):=ae
   obtain⟨s,hs⟩:∃s,tot (l.take j)=s:=⟨_,rfl⟩;rw[hs] at HS b1 b2 |-;clear hs;generalize l[j].1=x at *;generalize l[j].2=n at *
   go_wp2_with fail
   go_roundg (l.length - (j+1))
   case measure=>have:=HQ.out;omega
   case rel=>exact⟨⟨j+1,rfl,ae,ai,by rw[HS.out]⟩,rfl⟩
  ·obtain rfl:j=l.length:=ae
   rw[bH (aK _)]
   go_wp2_with fail
   go_ret;exact⟨rfl,rfl⟩
theorem uB{k n:Int}:∀{l:List Pr} {i:Nat},(∀(t:Nat) (h:t<l.length),t<i->l[t].1<k)->eQ k n l=l.take i++eQ k n (l.drop i)
 | _,0,_=>by simp
 | [],i+1,_=>by simp
 | p::l,i+1,h=>by
  have h0:p.1<k:=h 0 ag ae
  have ih:=uB (k:=k) (n:=n) (l:=l) (i:=i) (fun t ht hti=>h (t+1) ah ae)
  rw[eQ,if_pos h0,ih];simp
def j_(l:List Pr)(k n:Int)(i:Nat)(d:Bool)(out:List Pr):Prop:=if d then out++l.drop i=eQ k n l else out=l.take i/\∀(t:Nat) (h:t<l.length),t<i->l[t].1<k
theorem j_.len{l:List Pr}{k n:Int}{i:Nat}{d:Bool}{out:List Pr}(h:j_ l k n i d out):out.length<=l.length+1:=by
 unfold j_ at h
 split at h
 ·have h1:=congrArg List.length h
  have:=qU k n l;rw[aI] at h1;omega
 ·rw[h.1,bg];omega
theorem j_.pass{l:List Pr}{k n:Int}{i:Nat}{out:List Pr}(h:j_ l k n i false out)(hi:i<l.length)(hk:l[i].1<k):j_ l k n (i+1) false (out++[l[i]]):=by
 obtain⟨h1,h2⟩:=h;refine⟨by rw[h1,aT hi],fun t ht hti=>?_⟩
 rcases bJ t i with h|h
 ·exact h2 t ht h
 ·obtain rfl:t=i:=ae
  exact hk
theorem j_.same{l:List Pr}{k n:Int}{i:Nat}{out:List Pr}(h:j_ l k n i false out)(hi:i<l.length)(hk:l[i].1=k):j_ l k n (i+1) true (out++[(k,l[i].2+n)]):=by
 obtain⟨h1,h2⟩:=h;show _++_=_
 rw[uB h2,h1,List.drop_eq_getElem_cons hi,eQ,if_neg ae,if_pos hk];simp
theorem j_.hit{l:List Pr}{k n:Int}{i:Nat}{out:List Pr}(h:j_ l k n i false out)(hi:i<l.length)(hk:k<l[i].1):j_ l k n (i+1) true (out++[(k,n)]++[l[i]]):=by
 obtain⟨h1,h2⟩:=h;show _++_=_
 rw[uB h2,h1,List.drop_eq_getElem_cons hi,eQ,if_neg ae,if_neg ae];simp
theorem j_.rest{l:List Pr}{k n:Int}{i:Nat}{out:List Pr}(h:j_ l k n i true out)(hi:i<l.length):j_ l k n (i+1) true (out++[l[i]]):=by
 have h:out++l.drop i=eQ k n l:=h;rw[List.drop_eq_getElem_cons hi] at h;show _++_=_
 rw[<-h];simp
theorem j_.fin1{l:List Pr}{k n:Int}{out:List Pr}(h:j_ l k n l.length true out):out=eQ k n l:=by
 have h:out++l.drop l.length=eQ k n l:=h
 simpa using h
theorem j_.fin0{l:List Pr}{k n:Int}{out:List Pr}(h:j_ l k n l.length false out):out++[(k,n)]=eQ k n l:=by
 obtain⟨h1,h2⟩:=h;rw[uB h2,h1];simp[eQ]
theorem qY(v:Value)(k n:Int)(l:List Pr)(w:World)(h:gz fU w v l)(hp:gQ l)(n0:0<=n)(ht:tot l+n<=9223372036854775807)(hl:l.length<=1000000000) :
 Calls Tryz.prog 188 #[v,.int .i64 k,.int .u64 n] w fun e w'=>∃v',e=.returned v'/\dI fU w.heap.size w' v' (eQ k n l)/\Below w.heap.size w w':=by
 obtain⟨A,c,rfl,_,_,hf⟩:=h.form;have HF:=aB hf;have HB:Hid (∀(j:Nat) (h:j<l.length),0<=l[j].2/\l[j].2+n<=9223372036854775807):=aB (fun j h=>by
  have h1:=hp _ (bu h);have h2:=pR hp _ (bu h);omega)
 clear h hf hp
 go_enter Tryz.func188,Tryz.ntmps188
 go_wp2_with fail
 go_loopg [7,8,9] l.length (fun q u d x wr=>∃(j:Nat) (b:Bool) (out:List Pr),q=l.length - j/\j<=l.length/\x=.int .i64 j/\d=.bool b/\Hid (j_ l k n j b out)/\Hid (dI fU w.heap.size wr u out)/\Below w.heap.size w wr)
 case atStart=>exact⟨0,false,[],rfl,ae,rfl,rfl,aB ⟨rfl,fun t _ h=>absurd h ae⟩,aB (dI.nil_ _ _),aH _ _⟩
 case round=>
  obtain⟨j,b,out,hq,hj,rfl,rfl,HT,HO,hb⟩:=hrel;have HQ:=aB hq;have hz:=hb.size;have hol:=HT.out.len;clear hq;obtain⟨A5,c5,rfl,_,_,_⟩:=HO.out.form
  by_cases hlt:j<l.length
  ·obtain⟨g,off,rfl,hg,Ji,J9⟩:=kY HF.out hlt
   have c0:=(hb.cell (p:=⟨g,off+j * 2,none⟩) hg).trans Ji;have c1:=(hb.cell (p:=⟨g,off+j * 2+1,none⟩) hg).trans J9;have CW:=aB (aN Ji J9);clear Ji J9;have hji:(j:Int)<(l.length:Int):=ae
   have hbd:=HB.out j hlt;have HX:Hid (l[j]=(l[j].1,l[j].2)):=aB rfl
   cases b
   ·rcases Int.lt_trichotomy l[j].1 k with hk|hk|hk
    ·have HN:=aB (HT.out.pass hlt hk)
     rw[HX.out] at HN;have hk':¬k<=l[j].1:=ae
     generalize l[j].1=x at *;generalize l[j].2=m at *
     go_wp2_with (at_builtin;refine pY tq rfl (.tmp 52) (.tmp 57) rfl (HO.out.alloc _) rfl _ [(x,m)] rfl (gz.dY (E:=fU) _ (x,m) _ rfl _ rfl _ ag) ah aj ?_;intro v6 w6 o6 g6 _;have Gp:Hid (Below w.heap.size w w6):=aB ((hb.alloc hz _).grown g6 ah (fun k hk=>(HO.out.lt k hk).1));have O6:=aB o6;clear o6 g6)
     go_roundg (l.length - (j+1))
     case measure=>have:=HQ.out;omega
     case rel=>exact⟨j+1,false,_,rfl,ae,ai,rfl,HN,O6,Gp.out⟩
    ·have HN:=aB (HT.out.same hlt hk)
     have hk':(l[j].1 == k)=true:=by simpa using hk
     have hkk:k<=l[j].1:=ae
     generalize l[j].1=x at *;generalize l[j].2=m at *;clear hk HX
     go_wp2_with (at_builtin;refine pY tq rfl (.tmp 34) (.tmp 44) rfl (HO.out.alloc _) rfl _ [(k,m+n)] rfl (gz.dY (E:=fU) _ (k,m+n) _ rfl _ rfl _ ag) ah aj ?_;intro v6 w6 o6 g6 _;have Gp:Hid (Below w.heap.size w w6):=aB ((hb.alloc hz _).grown g6 ah (fun k hk=>(HO.out.lt k hk).1));have O6:=aB o6;clear o6 g6)
     go_roundg (l.length - (j+1))
     case measure=>have:=HQ.out;omega
     case rel=>exact⟨j+1,true,_,rfl,ae,ai,rfl,HN,O6,Gp.out⟩
    ·have HN:=aB (HT.out.hit hlt hk)
     rw[HX.out] at HN;have hk':(l[j].1 == k)=false:=beq_eq_false_iff_ne.2 ae
     have hkk:k<=l[j].1:=ae
     generalize l[j].1=x at *;generalize l[j].2=m at *;have bf3:(out++[(k,n)]).length+1<=1099511627776:=ah
     go_wp2_with (first
      | (at_builtin
         refine pY tq rfl (.tmp 46) (.tmp 50) rfl (HO.out.alloc _) rfl _ [(k,n)] rfl (gz.dY (E:=fU) _ (k,n) _ rfl _ rfl _ ag) ah aj ?_
         intro v6 w6 o6 g6 _;have hb6:Below w.heap.size w w6:=(hb.alloc hz _).grown g6 ah (fun k hk=>(HO.out.lt k hk).1)
         have c2:=(hb6.cell (p:=⟨g,off+j * 2,none⟩) hg).trans CW.out.1;have c3:=(hb6.cell (p:=⟨g,off+j * 2+1,none⟩) hg).trans CW.out.2;have Ns:=hb6.size;have O6:=aB o6;clear o6 g6)
      | (at_builtin
         refine pY tq rfl (.tmp 52) (.tmp 57) rfl (O6.out.alloc _) rfl _ [(x,m)] rfl (gz.dY (E:=fU) _ (x,m) _ rfl _ rfl _ ag) bf3 aj ?_
         intro v7 w7 o7 g7 _;have hb7:Below w.heap.size w w7:=(hb6.alloc Ns _).grown g7 ah (fun k hk=>(O6.out.lt k hk).1)
         have O7:=aB o7;clear o7 g7))
     go_roundg (l.length - (j+1))
     case measure=>have:=HQ.out;omega
     case rel=>exact⟨j+1,true,_,rfl,ae,ai,rfl,HN,O7,hb7⟩
   ·have HN:=aB (HT.out.rest hlt)
    rw[HX.out] at HN;generalize l[j].1=x at *;generalize l[j].2=m at *
    go_wp2_with (at_builtin;refine pY tq rfl (.tmp 52) (.tmp 57) rfl (HO.out.alloc _) rfl _ [(x,m)] rfl (gz.dY (E:=fU) _ (x,m) _ rfl _ rfl _ ag) ah aj ?_;intro v6 w6 o6 g6 _;have Gp:Hid (Below w.heap.size w w6):=aB ((hb.alloc hz _).grown g6 ah (fun k hk=>(HO.out.lt k hk).1));have O6:=aB o6;clear o6 g6)
    go_roundg (l.length - (j+1))
    case measure=>have:=HQ.out;omega
    case rel=>exact⟨j+1,true,_,rfl,ae,ai,rfl,HN,O6,Gp.out⟩
  ·obtain rfl:j=l.length:=ae
   cases b
   ·have HE:=aB HT.out.fin0
    go_wp2_with (at_builtin;refine pY tq rfl (.tmp 61) (.tmp 65) rfl (HO.out.alloc _) rfl _ [(k,n)] rfl (gz.dY (E:=fU) _ (k,n) _ rfl _ rfl _ ag) ah aj ?_;intro v6 w6 o6 g6 _;have Gp:Hid (Below w.heap.size w w6):=aB ((hb.alloc hz _).grown g6 ah (fun k hk=>(HO.out.lt k hk).1));have O6:=aB o6;clear o6 g6)
    go_ret;exact⟨_,rfl,by rw[<-HE.out];exact O6.out,Gp.out⟩
   ·have HE:=aB HT.out.fin1
    go_wp2_with fail
    go_ret;exact⟨_,rfl,by rw[<-HE.out];exact HO.out,hb⟩
def av4(er:Int)(v:Value)(M:List Pr)(w:World)(e:Ending)(w':World):Prop:=∃v',e=.returned (.tuple #[v',.int .i64 er])/\(er=0->dI fU w.heap.size w' v' M)/\(er≠0->v'=v)/\Below w.heap.size w w'
theorem Om(v:Value)(k n:Int)(l:List Pr)(w:World)(h:gz fU w v l)(hp:gQ l)(n0:0<=n)(n1:n<18446744073709551616)(ht:tot l<=4611686018427387904)(hl:l.length<=1000000000) :
 Calls Tryz.prog 270 #[v,.int .i64 k,.int .u64 n,.int .i64 0] w (av4 (iR l k n) v (eQ k n l) w):=by
 have HE:Hid (iR l k n=if n=0 then 4 else if k < -1048576\/1048576<k then 5 else if 4611686018427387904<tot l+n then 6 else 0):=aB rfl
 have C1:=aB (l_ v l w h hp ae hl)
 have t0:=dL hp;obtain⟨A,c,rfl,_,_,_⟩:=h.form;have C2:Hid (tot l+n<=4611686018427387904->_):=aB (fun hx=>qY (.slice A l.length c) k n l w h hp n0 ae hl)
 clear h hp;generalize iR l k n=er at *;generalize tot l=t at *
 by_cases h1:n=0
 ·obtain rfl:er=4:=by rw[HE.out,if_pos h1]
  go_enter Tryz.func270,Tryz.ntmps270
  go_wp2_with fail
  go_ret2
  exact⟨_,rfl,fun h=>absurd h af,fun _=>rfl,aH _ _⟩
 ·by_cases h2:k < -1048576
  ·obtain rfl:er=5:=by rw[HE.out,if_neg h1,if_pos (.inl h2)]
   go_enter Tryz.func270,Tryz.ntmps270
   go_wp2_with fail
   go_ret2
   exact⟨_,rfl,fun h=>absurd h af,fun _=>rfl,aH _ _⟩
  ·by_cases h3:1048576<k
   ·obtain rfl:er=5:=by rw[HE.out,if_neg h1,if_pos (.inr h3)]
    go_enter Tryz.func270,Tryz.ntmps270
    go_wp2_with fail
    go_ret2
    exact⟨_,rfl,fun h=>absurd h af,fun _=>rfl,aH _ _⟩
   ·by_cases h4:4611686018427387904<t+n
    ·obtain rfl:er=6:=by rw[HE.out,if_neg h1,if_neg ae,if_pos h4]
     have h5:4611686018427387904 - t<n:=ae
     go_enter Tryz.func270,Tryz.ntmps270
     go_wp2_with fail;refine(C1.out).mono ?_
     rintro e w' ⟨rfl,rfl⟩
     go_wp2_with fail
     go_ret2
     exact⟨_,rfl,fun h=>absurd h af,fun _=>rfl,aH _ _⟩
    ·obtain rfl:er=0:=by rw[HE.out,if_neg h1,if_neg ae,if_neg h4]
     have h5:¬4611686018427387904 - t<n:=ae
     have C3:=aB (C2.out ae)
     clear C2
     go_enter Tryz.func270,Tryz.ntmps270
     go_wp2_with fail;refine(C1.out).mono ?_
     rintro e w' ⟨rfl,rfl⟩
     go_wp2_with fail;refine(C3.out).mono ?_
     rintro e w1 ⟨v1,rfl,o1,hb1⟩
     go_wp2_with fail
     go_ret2
     exact⟨_,rfl,fun _=>o1,fun h=>absurd rfl h,hb1⟩
open Go.RowKit
def am0(er:Int)(v:Value)(m M:List Pr)(w:World)(e:Ending)(w':World):Prop:=∃v',e=.returned (.tuple #[v',.int .i64 er])/\(er=0->m≠[]->dI fU w.heap.size w' v' M)/\(er≠0\/m=[]->v'=v)/\Below w.heap.size w w'
theorem AQ:∀(b a:List Pr),(fA a b).length<=a.length+b.length
 | [],a=>by simp[qV]
 | p::b,a=>by
  have h1:=AQ b (eQ p.1 p.2 a);have h2:=(qU p.1 p.2 a).2;rw[xA];simp only[aP];omega
theorem J_(v u:Value)(l m:List Pr)(w:World)(h:gz fU w v l)(hu:gz fU w u m)(hp:gQ l)(hq:gQ m)(ht:tot l<=4611686018427387904)(htm:tot m<=4611686018427387904)(hl:l.length+m.length<=1000000000) :
 Calls Tryz.prog 189 #[v,u,.int .i64 0] w (am0 (gJ l m) v m (fA l m) w):=by
 have C1:=aB (l_ v l w h hp ae  ae)
 have C2:=aB (l_ u m w hu hq ae  ae)
 have t0:=dL hp;have t1:=dL hq;obtain⟨A,c,rfl,_,_,_⟩:=h.form;obtain⟨B,d,rfl,_,_,hf⟩:=hu.form;have HF:=aB hf;have HR:=aB h;have HP:=aB hp;have HQ0:=aB hq;clear h hu hf
 by_cases hm:m=[]
 ·subst hm
  have he:gJ l []=0:=by unfold gJ;rw[if_neg (by rw[aa4];omega)]
  rw[he]
  go_enter Tryz.func189,Tryz.ntmps189
  go_wp2_with fail
  go_ret2
  exact⟨_,rfl,fun _ h=>absurd rfl h,fun _=>rfl,aH _ _⟩
 ·have hm0:0<m.length:=List.length_pos_iff.2 hm
  have HM:=aB hm;have hmz:((m.length:Int) == 0)=false:=ah
  by_cases ho:4611686018427387904<tot l+tot m
  ·have he:gJ l m=6:=by unfold gJ;rw[if_pos ho]
   rw[he];clear hp hq he hm HP HQ0;generalize tot l=t at *;generalize tot m=s at *;have h5:4611686018427387904 - t<s:=ae
   go_enter Tryz.func189,Tryz.ntmps189
   go_wp2_with fail;refine(C2.out).mono ?_
   rintro e w' ⟨rfl,rfl⟩
   go_wp2_with fail;refine(C1.out).mono ?_
   rintro e w' ⟨rfl,rfl⟩
   go_wp2_with fail
   go_ret2
   exact⟨_,rfl,fun h=>absurd h af,fun _=>rfl,aH _ _⟩
  ·have he:gJ l m=0:=by unfold gJ;rw[if_neg ho]
   rw[he];have HB:Hid (∀(j:Nat) (h:j<m.length),0<=m[j].2/\tot (fA l (m.take j))+m[j].2<=4611686018427387904):=aB (fun j h=>by
    have h1:=hq _ (bu h);have h2:=(jZ hq (j+1)).2;rw[iy h] at h2;rw[nG];omega)
   clear hp hq he hm;obtain⟨t,hte⟩:∃t,tot l=t:=⟨_,rfl⟩;obtain⟨s,hse⟩:∃s,tot m=s:=⟨_,rfl⟩;rw[hte] at C1 t0 ho;rw[hse] at C2 t1 ho;clear hte hse ht htm;have h5:¬4611686018427387904 - t<s:=ae
   go_enter Tryz.func189,Tryz.ntmps189
   go_wp2_with fail;refine(C2.out).mono ?_
   rintro e w' ⟨rfl,rfl⟩
   go_wp2_with fail;refine(C1.out).mono ?_
   rintro e w' ⟨rfl,rfl⟩
   go_wp2_with fail
   go_loopg [10,11] m.length (fun q y x wr=>∃j:Nat,q=m.length - j/\j<=m.length/\x=.int .i64 j/\Hid (gz fU wr y (fA l (m.take j)))/\Hid (0<j->dI fU w.heap.size wr y (fA l (m.take j)))/\Below w.heap.size w wr)
   case atStart=>exact⟨0,rfl,ae,rfl,HR,aB (fun h=>absurd h ae),aH _ _⟩
   case round=>
    obtain⟨j,hq,hj,rfl,HY,HO,hb⟩:=hrel;have HQ:=aB hq;have hz:=hb.size;clear hq
    by_cases hlt:j<m.length
    ·obtain⟨g,off,rfl,hg,Ji,J9⟩:=kY HF.out hlt
     have c0:=(hb.cell (p:=⟨g,off+j * 2,none⟩) hg).trans Ji;have c1:=(hb.cell (p:=⟨g,off+j * 2+1,none⟩) hg).trans J9;have CW:=aB (aN c0 c1);have hgr:g<wr.heap.size:=ae
     clear Ji J9 c0 c1;have hji:(j:Int)<(m.length:Int):=ae
     have hjz:(0:Int)<=(j:Int):=ae
     have hbd:=HB.out j hlt;have hln:=AQ (m.take j) l;have HPM:Hid (gQ (fA l (m.take j))):=aB (kF HP.out (fun p hp=>HQ0.out p (List.mem_of_mem_take hp)))
     have HSN:Hid (eQ m[j].1 m[j].2 (fA l (m.take j))=fA l (m.take (j+1))):=aB (by rw[aT hlt,Dh])
     have C3:Hid (∀W,Below wr.heap.size wr W->_):=aB (fun W hW=>qY _ m[j].1 m[j].2 (fA l (m.take j)) W (HY.out.keep hW) HPM.out hbd.1 ae (by rw[bg] at hln;omega))
     rw[HSN.out] at C3;have HU2:=HY.out;obtain⟨A7,c7,rfl,_,_,_⟩:=HU2.form;clear HU2 HSN HPM;generalize m[j].1=x at *;generalize m[j].2=n at *
     go_upto_region 14 with fail;have lS:=aB (fun w' (hS':(Below wr.heap.size wr) w')=>(aN ((hS'.cell (p:=⟨g,off+j * 2,none⟩) hgr).trans CW.out.1) ((hS'.cell (p:=⟨g,off+j * 2+1,none⟩) hgr).trans CW.out.2)))
     refine dD (Below wr.heap.size wr) [(0,true),(1,true),(2,true),(3,true),(4,true),(5,true),(6,true),(7,true),(8,true),(9,true),(10,true),(11,false),(12,true)] (by kernel_rfl) (by kernel_rfl) ((aH _ _).drew) ?_
     iterate 11
      refine dC ax  ax (fun R hR=>?_)
      apply aJ
      refine⟨fun w' hS'=>?_,?_⟩
      ·obtain⟨k0,k1⟩:=lS.out w' hS'
       go_simp;exact⟨rfl,rfl⟩
      go_simp;refine hR _ ?_;clear hR R
     refine dE ax  ax (fun K hK=>?_)
     go_simp;refine(C3.out wr.drew (aH _ _).drew).mono ?_
     rintro e w3 ⟨v3,rfl,o3,hb3⟩;have B3:Below wr.heap.size wr w3:=(aH _ _).drew.trans hb3;have O3:=aB o3;clear o3 hb3;refine hK _ _ (B3) ?_
     clear hK K
     iterate 1
      refine dC ax  ax (fun R hR=>?_)
      apply aJ
      refine⟨fun w' hS'=>?_,?_⟩
      ·obtain⟨k0,k1⟩:=lS.out w' hS'
       go_simp;exact⟨rfl,rfl⟩
      go_simp;refine hR _ ?_;clear hR R
     refine dF ?_
     go_wp2_with fail
     go_roundg (m.length - (j+1))
     case measure=>have:=HQ.out;omega
     case rel=>exact⟨j+1,rfl,ae,ai,aB O3.out.rd,aB (fun _=>O3.out.more (by show w.heap.size<=wr.drew.heap.size;exact hz)),hb.trans (B3.mono hz)⟩
    ·obtain rfl:j=m.length:=ae
     rw[bH (aK _)] at HO
     go_wp2_with fail
     go_ret2
     exact⟨_,rfl,fun _ _=>HO.out hm0,fun h=>absurd h (by have:=HM.out;simp[this]),hb⟩
theorem Xg(v:Value)(l:List Pr)(m:Nat)(w:World)(h:gz fU w v l)(hp:gQ l)(ht:tot l<=4611686018427387904)(hm:0<m)(hm1:m<=1000000)(hl:l.length<=1000000000) :
 Calls Tryz.prog 216 #[v,.int .i64 m] w fun e w'=>∃v',e=.returned (.tuple #[v',.int .u64 (dW m l).2])/\gz fU w' v' (dW m l).1/\Below w.heap.size w w':=by
 obtain⟨A,c,rfl,_,_,hf⟩:=h.form;have HF:=aB hf;have HR:=aB h
 by_cases hle:l.length<=m
 ·rw[lT hle]
  clear h hf hp
  go_enter Tryz.func216,Tryz.ntmps216
  go_wp2_with fail
  go_ret2
  exact⟨_,rfl,HR.out,aH _ _⟩
 ·have HB:Hid (∀j,0<=tot (l.take j)/\tot (l.take j)<=4611686018427387904):=aB (fun j=>by have:=jZ hp j;omega)
  obtain⟨z,hz⟩:∃z,l.length=z+m:=⟨l.length - m,ae⟩
  have ZB:dW m l=(bump (tot (l.take z)) (l.drop z),tot (l.take z)):=by unfold dW;rw[show l.length - m=z by omega]
  have VL:Hid (∀(j:Nat) (h:j<l.length),0<l[j].2/\l[j].2<=4611686018427387904):=aB (fun j h=>⟨hp _ (bu h),by have:=pR hp _ (bu h);omega⟩)
  rw[ZB];obtain⟨s,hs⟩:∃s,tot (l.take z)=s:=⟨_,rfl⟩;have hb0:=HB.out z;rw[hs] at hb0 |-;have HSE:=aB hs;have hdl:(l.drop z).length=m:=by rw[bn];omega
  obtain⟨BB,hBB⟩:∃x,bump s (l.drop z)=x:=⟨_,rfl⟩;have hbl:BB.length=m:=by rw[<-hBB,bump_length,hdl]
  have Xh:=aB hbl;have HB0:Hid (∀h:z<l.length,BB.take 1=[(l[z].1,l[z].2+s)]):=aB (fun h=>by
   rw[<-hBB,List.drop_eq_getElem_cons h];rfl)
  have HB1:Hid (∀k (h:z+k<l.length),0<k->BB.take (k+1)=BB.take k++[(l[z+k].1,l[z+k].2)]):=aB (fun k h h0=>by
   have hk:k<BB.length:=ae
   rw[aT hk]
   congr 2
   have hj:z<l.length:=ae
   have e:BB[k]?=some l[z+k]:=by
    rw[<-hBB,List.drop_eq_getElem_cons hj];show((l[z].1,l[z].2+s)::l.drop (z+1))[k]?=_
    obtain⟨k',rfl⟩:∃k',k=k'+1:=⟨k - 1,ae⟩
    rw[aG,List.getElem?_drop,show z+1+k'=z+(k'+1) by omega,aY h]
   exact(List.getElem?_eq_some_iff.1 e).2)
  rw[hBB];have hlz:(l.length:Int) - (m:Int)=(z:Int):=ae
  have hzl:z+m<=l.length/\l.length<=z+m:=ae
  clear h hf hp ZB hBB hbl hdl hs hz
  go_enter Tryz.func216,Tryz.ntmps216
  go_wp2_with fail
  go_loopg [6,7] z (fun q s x wr=>(∃j:Nat,q=z - j/\j<=z/\x=.int .i64 j/\s=.int .u64 (tot (l.take j)))/\w=wr)
  case atStart=>exact⟨⟨0,rfl,ae,rfl,rfl⟩,rfl⟩
  case round=>
   obtain⟨⟨j,hq,hj,rfl,rfl⟩,rfl⟩:=hrel;have HQ:=aB hq;clear hq
   by_cases hlt:j<z
   ·have hjl:j<l.length:=ae
    obtain⟨g,off,rfl,hg,c0,c1⟩:=kY HF.out hjl;have HS:=aB (iy hjl);have b1:=HB.out j;have b2:=HB.out (j+1);rw[HS.out] at b2;have hji:(j:Int)<(l.length:Int):=ae
    have hjz:(j:Int)<(z:Int):=ae
    obtain⟨s',hs⟩:∃s,tot (l.take j)=s:=⟨_,rfl⟩;rw[hs] at HS b1 b2 |-;clear hs;generalize l[j].1=x at *;generalize l[j].2=n at *
    go_wp2_with fail
    go_roundg (z - (j+1))
    case measure=>have:=HQ.out;omega
    case rel=>exact⟨⟨j+1,rfl,ae,ai,by rw[HS.out]⟩,rfl⟩
   ·obtain rfl:j=z:=ae
    rw[HSE.out]
    go_wp2_with fail
    go_loopg [8,9] m (fun q u x wr=>∃(k:Nat) (out:List Pr),q=m - k/\k<=m/\x=.int .i64 ((j+k:Nat):Int)/\Hid (dI fU w.heap.size wr u out)/\Hid (out=BB.take k)/\Below w.heap.size w wr)
    case atStart=>exact⟨0,[],rfl,ae,ag,aB (dI.nil_ _ _),aB ag,aH _ _⟩
    case round=>
     obtain⟨k,out,hq,hk,rfl,HO,HE,hb⟩:=hrel;have HQ:=aB hq;have hz2:=hb.size;clear hq;obtain⟨A5,c5,rfl,_,_,_⟩:=HO.out.form
     by_cases hlt:k<m
     ·have hjl:j+k<l.length:=ae
      obtain⟨g,off,rfl,hg,Ji,J9⟩:=kY HF.out hjl;have c0:=(hb.cell (p:=⟨g,off+(j+k) * 2,none⟩) hg).trans Ji;have c1:=(hb.cell (p:=⟨g,off+(j+k) * 2+1,none⟩) hg).trans J9;clear Ji J9;have hji:((j+k:Nat):Int)<(l.length:Int):=ae
      have hpb:=VL.out _ hjl;have hol:out.length=k:=by rw[HE.out,bg];have:=Xh.out;omega
      by_cases hk0:k=0
      ·subst hk0
       obtain rfl:out=[]:=aW hol;have HN:=aB (HB0.out hjl);simp only[Nat.add_zero] at c0 c1 hji hpb;generalize l[j].1=x at *;generalize l[j].2=n at *;clear hol
       go_wp2_with (at_builtin;refine pY tq rfl (.tmp 55) (.tmp 57) rfl ((HO.out.alloc _).alloc _) rfl _ [(x,n+s)] rfl (gz.dY (E:=fU) _ (x,n+s) _ rfl _ rfl _ ag) ag aj ?_;intro v6 w6 o6 g6 _;have Gp:Hid (Below w.heap.size w w6):=aB (((hb.alloc hz2 _).alloc ah _).grown g6 ah (fun k hk=>(HO.out.lt k hk).1));have O6:=aB o6;clear o6 g6)
       go_roundg (m - 1)
       case measure=>have:=HQ.out;omega
       case rel=>exact⟨1,_,rfl,ae,ai,O6,aB (by rw[HN.out];rfl),Gp.out⟩
      ·have HN:=aB (HB1.out k hjl ae)
       have hl0:((out.length:Int) == 0)=false:=by rw[hol];simp;omega
       have bm7:out.length<=1000000:=ae
       generalize l[j+k].1=x at *;generalize l[j+k].2=n at *;clear hol
       go_wp2_with (at_builtin;refine pY tq rfl (.tmp 55) (.tmp 57) rfl ((HO.out.alloc _).alloc _) rfl _ [(x,n)] rfl (gz.dY (E:=fU) _ (x,n) _ rfl _ rfl _ ag) ah aj ?_;intro v6 w6 o6 g6 _;have Gp:Hid (Below w.heap.size w w6):=aB (((hb.alloc hz2 _).alloc ah _).grown g6 ah (fun k hk=>(HO.out.lt k hk).1));have O6:=aB o6;clear o6 g6)
       go_roundg (m - (k+1))
       case measure=>have:=HQ.out;omega
       case rel=>exact⟨k+1,_,rfl,ae,ai,O6,aB (by rw[HN.out,HE.out]),Gp.out⟩
     ·obtain rfl:k=m:=ae
      have hjk:¬((j+k:Nat):Int)<(l.length:Int):=ae
      have HE2:Hid (out=BB):=aB (by rw[HE.out,bH (by have:=Xh.out;omega)])
      go_wp2_with fail
      go_ret2
      exact⟨_,rfl,by rw[<-HE2.out];exact HO.out.rd,hb⟩
theorem TK(v:Value)(l:List Pr)(m:Nat)(w:World)(h:gz fU w v l)(hp:gQ l)(ht:tot l<=4611686018427387904)(hm:0<m)(hm1:m<=1000000)(hl:l.length<=1000000000) :
 Calls Tryz.prog 111 #[v,.int .i64 m] w fun e w'=>∃v',e=.returned (.tuple #[v',.int .u64 (dW m l).2])/\gz fU w' v' (dW m l).1/\Below w.heap.size w w':=by
 have C:=aB (Xg v l m w h hp ht hm hm1 hl);clear h hp
 go_enter Tryz.func111,Tryz.ntmps111
 go_wp2_with fail;refine(C.out).mono ?_
 rintro e w1 ⟨v1,rfl,r1,hb1⟩
 go_wp2_with fail
 go_ret2
 exact⟨_,rfl,r1,hb1⟩
open Go.RowKit
theorem bf4{k j:IntKind}{a b c d:Int}(h:a=b)(g:c=d):Ending.returned (.tuple #[.int k a,.int j c])=.returned (.tuple #[.int k b,.int j d]):=by rw[h,g]
def TM(l:List Sp)(v:Int):Nat:=l.findIdx fun s=>decide (v<=s.high)
def xJ(a:Nat)(v:Int):Int:=if v=0 then 0 else if 0<v then 1+(TM (spans a) v:Nat) else -(1+(TM (spans a) (-v):Nat))
def hiP(l:List Sp)(v:Int)(i:Nat):Bool:=match l[i]? with
 | some s=>decide (v<=s.high)
 | none=>true
theorem xK{a:Nat}(ha:100<=a)(hb:a<=5000){v:Int}(hv:v<=9223372036854775807):TM (spans a) v<(spans a).length/\(spans a).length<=2100:=by
 obtain⟨_,_,h3,s,h4,h5⟩:=zF ha hb;refine⟨List.findIdx_lt_length_of_exists ⟨s,List.mem_of_getLast? h4,?_⟩,h3⟩
 simp only[decide_eq_true_eq];omega
theorem av5{a:Nat}(ha:100<=a)(hb:a<=5000){v:Int}(h0:-9223372036854775808<v)(h1:v<=9223372036854775807):-2100<=xJ a v/\xJ a v<=2100:=by
 have e1:=xK ha hb h1;have e2:=xK ha hb (v:=-v) ae
 unfold xJ
 split
 ·omega
 ·split<;>omega
theorem Du{l:List Sp}{v:Int}{i:Nat}(hi:i<=l.length)(h1:∀t,t<i->hiP l v t=false)(h2:∀t,i<=t->t<l.length->hiP l v t=true):i=TM l v:=by
 unfold TM
 rcases bJ i l.length with h|h
 ·refine((List.findIdx_eq h).2 ⟨?_,fun j hj=>?_⟩).symm
  ·have:=h2 i (aK _) h
   unfold hiP at this
   rwa [aY h] at this
  ·have:=h1 j hj
   unfold hiP at this
   rwa [aY ae] at this
 ·obtain rfl:i=l.length:=ae
  refine(List.findIdx_eq_length_of_false fun s hs=>?_).symm
  obtain⟨j,hj,rfl⟩:=List.mem_iff_getElem.1 hs;have:=h1 j hj;unfold hiP at this
  rwa [aY hj] at this
theorem Ko{a:Nat}(ha:100<=a)(hb:a<=5000)(v:Int)(i j:Nat)(hij:i<=j)(hj:j<(spans a).length)(h:hiP (spans a) v i=true):hiP (spans a) v j=true:=by
 obtain⟨h1,h2,_⟩:=zF ha hb;unfold hiP at *;rw[aY hj];rw[aY ae] at h
 simp only[decide_eq_true_eq] at *
 rcases Nat.lt_or_eq_of_le hij with h3|rfl
 ·have h4:=List.pairwise_iff_getElem.1 h2 i j ae hj h3
  have h5:=h1 _ (bu hj);omega
 ·exact h
theorem Fe.keep{base:Nat}{w w':World}{b a:Nat}(h:Fe base w b a)(hb:Below w.heap.size w w'):Fe base w' b a:=by
 obtain⟨h1,v,h2,h3⟩:=h;exact⟨h1,v,h2.keep hb,h3.keep hb⟩
theorem ab3{base b a:Nat}(w:World)(h:Fe base w b a):Calls Tryz.prog 162 #[.pointer (some ⟨b,0,none⟩)] w fun e w'=>e=.returned (.int .i64 a)/\w=w':=by
 obtain⟨_,v,h2,_⟩:=h;have c0:=h2.cell 0;simp only[aF,aC] at c0
 go_enter Tryz.func162,Tryz.ntmps162
 go_wp2
 go_ret;exact⟨rfl,rfl⟩
theorem Xi(p q b g off c:Nat)(l:List Sp)(x v:Int)(i:Nat)(W:World)(hi:i<l.length)(hl:l.length<=2100)
 (hp:W.cell? ⟨p,0,none⟩=some (.pointer (some ⟨b,0,none⟩))) (hq:W.cell? ⟨q,0,none⟩=some (.int .i64 v)) (hb:W.cell? ⟨b,1,none⟩=some (.slice (some ⟨g,off,none⟩) l.length c)) (hc:W.cell? ⟨g,off+i * 3+2,none⟩=some (.int .i64 x)) :
 Calls Tryz.prog 305 (#[.int .i64 i]++#[.pointer (some ⟨p,0,none⟩),.pointer (some ⟨q,0,none⟩)]) W fun e w'=>e=.returned (.bool (decide (v<=x)))/\∃q,w'=W.drewN q:=by
 have hiz:(i:Int)<(l.length:Int):=ae
 have hi0:(0:Int)<=(i:Int):=ae
 go_enter Tryz.func305,Tryz.ntmps305
 go_wp2_with fail
 go_quiet (fail)
 go_wp2_with fail
 go_ret;exact⟨rfl,_,rfl⟩
theorem QU{base b a:Nat}(v:Int)(w:World)(h:Fe base w b a)(ha:100<=a)(hb:a<=5000)(h0:0<v)(h1:v<=9223372036854775807) :
 Calls Tryz.prog 207 #[.pointer (some ⟨b,0,none⟩),.int .i64 v] w fun e w'=>e=.returned (.tuple #[.int .i64 (1+(TM (spans a) v:Nat)),.int .i64 0])/\Below w.heap.size w w':=by
 have hmo:=Ko ha hb v;have hlt:=xK ha hb h1;obtain⟨hb0,sv,hB,hO⟩:=h;obtain⟨l,hl⟩:∃l,spans a=l:=⟨_,rfl⟩;rw[hl] at hmo hlt hO |-;clear hl ha hb;obtain⟨g,c,rfl,_,hg,_,_⟩:=hO.pos ae
 have k1:=hB.cell 1;simp only[aF,aC,aG] at k1;have hbl:=hB.lt;have hce:∀i (hi:i<l.length),w.cell? ⟨g,0+i * 3+2,none⟩=some (.int .i64 (l[i]).high):=fun i hi=>by
  rw[Nat.zero_add];exact hO.cellAt hi 2 af
 have HC:=aB hce;have K1:=aB k1;have HM:=aB hmo;clear hce hB hO hb0 hmo k1;have hv0:¬v=-9223372036854775808:=ae
 have hv1:¬v=0:=ae
 have hv2:¬v<0:=ae
 have eg:∀args w,(callFunc 305 args).run Tryz.prog w=.ok (.enter 305 args) w:=fun _ _=>rfl
 have HW:Hid (Below w.heap.size w ((w.alloc (.cells #[.pointer (some ⟨b,0,none⟩)] 242)).alloc (.cells #[.int .i64 v] 2))):=aB (bw);have P0:Hid (((w.alloc (.cells #[.pointer (some ⟨b,0,none⟩)] 242)).alloc (.cells #[.int .i64 v] 2)).cell? ⟨w.heap.size,0,none⟩=some (.pointer (some ⟨b,0,none⟩))):=aB (by simp[World.cell?_alloc_new])
 have P1:Hid (((w.alloc (.cells #[.pointer (some ⟨b,0,none⟩)] 242)).alloc (.cells #[.int .i64 v] 2)).cell? ⟨w.heap.size+1,0,none⟩=some (.int .i64 v)):=aB (by simp[World.cell?_alloc_new])
 have HK:Hid (Calls Tryz.prog 211 #[.int .i64 l.length,.func (.func 305) #[] #[.pointer (some ⟨w.heap.size,0,none⟩),.pointer (some ⟨w.heap.size+1,0,none⟩)]] ((w.alloc (.cells #[.pointer (some ⟨b,0,none⟩)] 242)).alloc (.cells #[.int .i64 v] 2)) (Found l.length (hiP l v) ((w.alloc (.cells #[.pointer (some ⟨b,0,none⟩)] 242)).alloc (.cells #[.int .i64 v] 2)))):=by
  generalize (w.alloc (.cells #[.pointer (some ⟨b,0,none⟩)] 242)).alloc (.cells #[.int .i64 v] 2)=W at *;refine aB (NT 305 _ l.length (hiP l v) W eg ae (fun m i hi=>?_) HM.out)
  have hc:=(HW.out.cell (p:=⟨g,0+i * 3+2,none⟩) hg).trans (HC.out i hi);have hk:=(HW.out.cell (p:=⟨b,1,none⟩) hbl).trans K1.out;have:=Xi w.heap.size (w.heap.size+1) b g 0 c l (l[i]).high v i (W.drewN m) hi ae P0.out P1.out hk hc
  unfold hiP;rw[aY hi];exact this
 have k1:=K1.out;clear HM eg HC K1 P0 P1
 go_enter Tryz.func207,Tryz.ntmps207
 go_wp2_with fail;refine(HK.out).mono ?_
 rintro e w' ⟨i,q,rfl,hi,f1,f2,rfl⟩;obtain rfl:=Du hi f1 f2;clear f1 f2
 go_wp2_with fail
 go_ret2
 exact⟨rfl,below_drewN HW.out _⟩
theorem ab4{base b a:Nat}(v:Int)(w:World)(h:Fe base w b a)(ha:100<=a)(hb:a<=5000)(h0:-9223372036854775808<v)(h1:v<=9223372036854775807) :
 Calls Tryz.prog 207 #[.pointer (some ⟨b,0,none⟩),.int .i64 v] w fun e w'=>e=.returned (.tuple #[.int .i64 (xJ a v),.int .i64 0])/\Below w.heap.size w w':=by
 by_cases hp:0<v
 ·have e:xJ a v=1+(TM (spans a) v:Nat):=by unfold xJ;rw[if_neg ae,if_pos hp]
  rw[e];exact QU v w h ha hb hp h1
 ·have hv0:¬v=-9223372036854775808:=ae
  by_cases hz:v=0
  ·subst hz
   have e:xJ a 0=0:=rfl;rw[e]
   go_enter Tryz.func207,Tryz.ntmps207
   go_wp2_with fail
   go_ret2
   exact⟨rfl,bw⟩
  ·have hn:v<0:=ae
   have e:xJ a v=-(1+(TM (spans a) (-v):Nat)):=by unfold xJ;rw[if_neg hz,if_neg hp]
   rw[e];have hb1:Below w.heap.size w ((w.alloc (.cells #[.pointer (some ⟨b,0,none⟩)] 242)).alloc (.cells #[.int .i64 v] 2)):=bw;have C1:=aB (QU (-v) _ (h.keep hb1) ha hb ae  ae)
   have hk:=xK ha hb (v:=-v) ae
   generalize TM (spans a) (-v)=k at *;clear hb1 e
   go_enter Tryz.func207,Tryz.ntmps207
   go_wp2_with fail;refine(C1.out).mono ?_
   rintro e w1 ⟨rfl,hb1⟩;have hz1:=hb1.size
   go_wp2_with fail
   go_ret2
   exact⟨bf4 ae rfl,bw⟩
theorem ab5{base b a:Nat}(w:World)(_h:Fe base w b a) :
 Calls Tryz.prog 207 #[.pointer (some ⟨b,0,none⟩),.int .i64 (-9223372036854775808)] w fun e w'=>e=.returned (.tuple #[.int .i64 0,.int .i64 5])/\Below w.heap.size w w':=by
 go_enter Tryz.func207,Tryz.ntmps207
 go_wp2_with fail
 go_ret2
 exact⟨rfl,bw⟩
theorem Xj{a:Nat}(vl:Value)(v:Int)(w:World)(h:gz (VJ 187) w vl (spans a))(ha:100<=a)(hb:a<=5000)(h0:-9223372036854775808<v)(h1:v<=9223372036854775807) :
 Calls Tryz.prog 112 #[vl,.int .i64 v] w fun e w'=>e=.returned (.int .i64 (xJ a v))/\w=w':=by
 by_cases hz:v=0
 ·subst hz
  have e:xJ a 0=0:=rfl;rw[e]
  go_enter Tryz.func112,Tryz.ntmps112
  go_wp2_with fail
  go_ret;exact⟨rfl,rfl⟩
 ·obtain⟨m,hm⟩:∃m,(if v<0 then -v else v)=m:=⟨_,rfl⟩
  have hm0:0<m/\m<=9223372036854775807:=by rw[<-hm];split<;>omega
  have hlt:=xK ha hb hm0.2;have hmo:=Ko ha hb m;have hr:Hid (xJ a v=if v<0 then -((TM (spans a) m:Nat):Int) - 1 else((TM (spans a) m:Nat):Int)+1):=by
   show _=_
   unfold xJ;rw[if_neg hz]
   by_cases hn:v<0
   ·rw[if_pos hn] at hm |-
    rw[if_neg ae,hm];omega
   ·rw[if_neg hn] at hm |-
    rw[if_pos ae,hm];omega
  have hvm:(v<0/\v=-m)\/(¬v<0/\m=v):=by split at hm<;>omega
  clear hm;obtain⟨l,hl⟩:∃l,spans a=l:=⟨_,rfl⟩;rw[hl] at hmo hlt h hr;clear hl ha hb;obtain⟨A,c,rfl,_,_,hf⟩:=h.form;obtain⟨g,off,rfl,hg,hc⟩:=hf ae
  have HC:Hid (∀j (hj:j<l.length),w.cell? ⟨g,off+j * 3+2,none⟩=some (.int .i64 (l[j]).high)):=aB (fun j hj=>hc j hj 2 af)
  have HO:=aB hmo;clear hc hmo h hf;have hkl:=hlt.1
  rcases hvm with⟨hn,rfl⟩|⟨hn,rfl⟩
  all_goals
   go_enter Tryz.func112,Tryz.ntmps112
   go_wp2_with fail
   go_loopg [6] l.length (fun q x wr=>(∃k:Nat,q=l.length - k/\k<=l.length/\x=.int .i64 k/\Hid (∀t,t<k->hiP l m t=false))/\w=wr)
   case atStart=>exact⟨⟨0,rfl,ae,rfl,aB (fun t ht=>absurd ht ae)⟩,rfl⟩
   case round=>
    obtain⟨⟨k,hq,hk,rfl,HT⟩,rfl⟩:=hrel;have HQ:=aB hq;clear hq
    by_cases hlt2:k<l.length
    ·have hc:=HC.out k hlt2
     have hkz:(k:Int)<(l.length:Int):=ae
     have HE:Hid (hiP l m k=decide (m<=(l[k]).high)):=aB (by unfold hiP;rw[aY hlt2])
     generalize (l[k]).high=y at *
     by_cases hy:y<m
     ·go_wp2_with fail
      go_roundg (l.length - (k+1))
      case measure=>have:=HQ.out;omega
      case rel=>exact⟨⟨k+1,rfl,ae,ai,aB (fun t ht=>by
       rcases bJ t k with h|h
       ·exact HT.out t h
       ·obtain rfl:t=k:=ae
        rw[HE.out];exact decide_eq_false ae)⟩,rfl⟩
     ·have HK:Hid (k=TM l m):=aB (Du hk HT.out (fun t h3 h4=>HO.out k t h3 h4 (by rw[HE.out];exact decide_eq_true ae)))
      go_wp2_with fail
      go_ret;refine⟨ik ?_,rfl⟩
      rw[hr.out,<-HK.out]
      first|rw[if_pos hn]|rw[if_neg ae]
    ·obtain rfl:k=l.length:=ae
     have HK:Hid (l.length=TM l m):=aB (Du hk HT.out (fun t h3 h4=>by omega))
     have:=HK.out;omega
end Go.Proofs.YtkiebccnpheloaaGreat.D
