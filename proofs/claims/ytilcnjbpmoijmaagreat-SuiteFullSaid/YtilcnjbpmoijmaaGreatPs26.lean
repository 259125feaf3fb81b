/- Parts of a proof: what its theorem reaches, words cut short. No condition of its own. -/
import Derived.Test.YtilcnjbpmoijmaaGreatPs25
set_option maxRecDepth 100000
set_option maxHeartbeats 16000000
set_option linter.unusedVariables false
set_option linter.unusedSimpArgs false
namespace Go.Proofs.YtilcnjbpmoijmaaGreat.K
open Go.RowKit
def cF(p:Int->Bool):Nat->LL->Nat
 | _,[]=>0
 | w,l::L=>l.countP p * w+cF p (2 * w) L
def lessL(L:LL)(v:Int):Nat:=cF (fun x=>decide (x<v)) 1 L
def uptoL(L:LL)(v:Int):Nat:=cF (fun x=>decide (x<=v)) 1 L
theorem cF_append(p:Int->Bool):∀(w:Nat) (A B:LL),cF p w (A++B)=cF p w A+cF p (2 ^ A.length * w) B
 | w,[],B=>by simp[cF]
 | w,a::A,B=>by
  rw[List.cons_append,cF,cF_append p (2 * w) A B,cF,List.length_cons,Nat.pow_succ,Nat.mul_assoc,Nat.add_assoc]
theorem cF_le(p:Int->Bool):∀(w:Nat) (L:LL),cF p w L<=wtF w L
 | w,[]=>by simp[cF,wtF]
 | w,l::L=>by
  rw[cF,wtF]
  have h1:=cF_le p (2 * w) L
  have h2:l.countP p * w<=l.length * w:=Nat.mul_le_mul_right _ List.countP_le_length
  omega
theorem cF_take_succ(p:Int->Bool){L:LL}{j:Nat}(h:j<L.length):cF p 1 (L.take (j+1))=cF p 1 (L.take j)+(lvl L j).countP p * 2 ^ j:=by
 rw[List.take_succ_eq_append_getElem h,cF_append,List.length_take,Nat.min_eq_left (by omega),lvl_at h]
 simp[cF]
theorem cF_take_le(p:Int->Bool)(L:LL)(j:Nat):cF p 1 (L.take j)<=wt L:=Nat.le_trans (cF_le p 1 _) (wtF_take_le L j)
theorem srt_count{p:Int->Bool}(hp:∀a b,a<=b->p b=true->p a=true):∀{l:List Int} (_:Srt l) {j:Nat} (hj:j<l.length),(p l[j]=true<->j<l.countP p)
 | y::l,hs,j,hj=>by
  have h1:=List.pairwise_cons.1 hs
  by_cases hy:p y=true
  ·rw[List.countP_cons_of_pos hy]
   cases j with
   | zero=>simp[hy]
   | succ j=>
    have:=srt_count hp h1.2 (j:=j) (by simpa using hj)
    rw[List.getElem_cons_succ,this];omega
  ·have h0:l.countP p=0:=List.countP_eq_zero.2 fun z hz hpz=>hy (hp y z (h1.1 z hz) hpz)
   rw[List.countP_cons_of_neg hy,h0]
   constructor
   ·intro h
    exfalso
    cases j with
    | zero=>exact hy h
    | succ j=>
     have hz:l[j]'(by simpa using hj)∈l:=List.getElem_mem _
     exact hy (hp y _ (h1.1 _ hz) h)
   ·intro h;omega
theorem lt_down(v:Int):∀a b:Int,a<=b->decide (b<v)=true->decide (a<v)=true:=fun a b h1 h2=>by simp only[decide_eq_true_eq] at *;omega
theorem le_down(v:Int):∀a b:Int,a<=b->decide (b<=v)=true->decide (a<=v)=true:=fun a b h1 h2=>by simp only[decide_eq_true_eq] at *;omega
theorem count_le(l:List Int)(v:Int):l.countP (fun x=>decide (x<v))<=l.countP (fun x=>decide (x<=v)):=List.countP_mono_left fun x _ h=>by simp only[decide_eq_true_eq] at *;omega
theorem srt_eq{l:List Int}(hs:Srt l){v:Int}{j:Nat}(hj:j<l.length)(h1:l.countP (fun x=>decide (x<v))<=j):l[j]=v<->j<l.countP (fun x=>decide (x<=v)):=by
 have a:=srt_count (lt_down v) hs hj
 have b:=srt_count (le_down v) hs hj
 simp only[decide_eq_true_eq] at a b
 rw[<-b]
 have h2:¬l[j]<v:=fun h=>by have:=a.1 h;omega
 omega
theorem _root_.Go.Proofs.YtilcnjbpmoijmaaGreat.OwnE.bs{base:Nat}{w:World}{v:Value}{l:List Int}(h:RdE i64E w v l)(hs:Srt l)(hl:l.length<=1000000000)(x:Int) :
 Calls Tryz.prog 322 #[v,.int .i64 x] w fun e w'=>e=.returned (.tuple #[.int .i64 (l.countP (fun y=>decide (y<x)):Nat),.bool (l.contains x)])/\∃q,w'=w.drewN q:=by
 obtain⟨A,c,rfl,h1,h2,hf⟩:=h.form
 have _:=base
 cases A with
 | none=>
  have h0:l=[]:=by
   rcases Nat.eq_zero_or_pos l.length with h0|h0
   ·exact List.eq_nil_of_length_eq_zero h0
   ·obtain⟨g,off,e,_⟩:=hf h0;cases e
  subst h0
  clear hf h
  go_enter Tryz.func322,Tryz.ntmps322
  go_wp2_with fail
  go_loopg [7,8,9] 0 (fun _ i j _ wr=>i=.int .i64 0/\j=.int .i64 0/\w=wr)
  case atStart=>exact⟨rfl,rfl,rfl⟩
  case round=>
   obtain⟨rfl,rfl,rfl⟩:=hrel
   go_wp2_with fail
   go_ret2
   exact⟨rfl,0,rfl⟩
 | some a=>
  by_cases h0:0<l.length
  ·obtain⟨g,off,e,hg,hc⟩:=hf h0
   injection e with e
   subst e
   have hcc:∀j,j<l.length->w.cell? ⟨g,off+j,none⟩=some (.int .i64 (l.getD j 0)):=fun j hj=>by
    have:=hc j hj 0 (by decide)
    rw[show off+j * i64E.k+0=off+j by show off+j * 1+0=_;omega] at this
    rw[this,List.getD,List.getElem?_eq_getElem hj];rfl
   have:=AnyG.slices_BinarySearch_int Tryz.searchN g off l.length c l x w (Nat.le_refl _) (by omega) hcc (by rw[List.take_length];exact hs)
   rw[List.take_length] at this
   exact this
  ·have h0':l=[]:=List.eq_nil_of_length_eq_zero (by omega)
   subst h0'
   clear hf h
   go_enter Tryz.func322,Tryz.ntmps322
   go_wp2_with fail
   go_loopg [7,8,9] 0 (fun _ i j _ wr=>i=.int .i64 0/\j=.int .i64 0/\w=wr)
   case atStart=>exact⟨rfl,rfl,rfl⟩
   case round=>
    obtain⟨rfl,rfl,rfl⟩:=hrel
    go_wp2_with fail
    go_ret2
    exact⟨rfl,0,rfl⟩
theorem wt48{c h:Nat}(hb:c * 2 ^ h<=281474976710656):IntKind.u64.wrap ((c:Int) * 2 ^ h)=((c * 2 ^ h:Nat):Int):=by
 have h2:(2:Int) ^ h=((2 ^ h:Nat):Int):=by rw[Int.natCast_pow];rfl
 rw[h2,<-Int.natCast_mul,IntKind.wrap_u64]
 generalize c * 2 ^ h=z at hb
 omega
theorem between_any{F:Nat->Prop}{g k n led a:Nat}{lv:Value}{vs:List Sv}{L:LL}(v:Int)(w:World)(hs:Kst F w g k n led lv vs L)(hok:PkOk (L,led,a)) :
 Calls Tryz.prog 248 #[.pointer (some ⟨g,0,none⟩),.int .i64 v] w fun e w'=>e=.returned (.tuple #[.int .u64 (lessL L v:Nat),.int .u64 (uptoL L v:Nat)])/\∃q,w'=w.drewN q:=by
 obtain⟨A,c,elv,hc1,hc2,_⟩:=hs.form
 have C1:=Lib.hid hs.cell1
 have HS:=Lib.hid hs
 have hlenL:=hok.lenL
 have hcnt:=hok.cntL
 have HSR:=Lib.hid hok.srt
 have HTL:=Lib.hid (fun p j=>Nat.le_trans (cF_take_le p L j) hok.wtL)
 have HC:=Lib.hid (fun p=>show cF p 1 (L.take L.length)=cF p 1 L by rw[List.take_length])
 have hgw:=hs.blk.lt
 have c1:=hs.cell1
 clear hs hok
 subst elv
 go_enter Tryz.func248,Tryz.ntmps248
 go_wp2_with fail
 clear c1
 go_loopg [6,7,8,9,10,11,12,18] L.length (fun q n1 n2 _ _ _ _ _ i wr=>∃(j d:Nat),q=L.length - j/\j<=L.length/\n1=.int .u64 ((cF (fun x=>decide (x<v)) 1 (L.take j):Nat):Int)/\n2=.int .u64 ((cF (fun x=>decide (x<=v)) 1 (L.take j):Nat):Int)/\i=.int .i64 (j:Int)/\wr=w.drewN d)
 case atStart=>exact⟨0,0,by omega,by omega,rfl,rfl,rfl,rfl⟩
 case round=>
  obtain⟨j,d,hq,hj,rfl,rfl,rfl,rfl⟩:=hrel
  have HQ:=Lib.hid hq
  clear hq
  by_cases hjl:j<L.length
  ·obtain⟨gl,cc,sA,sc,elv,hgl,_,_,_,c2,_,ol,_⟩:=HS.out.at_ hjl
   injection elv with elv e2 e3
   subst elv;subst e3
   have HT1:=Lib.hid (cF_take_succ (fun x=>decide (x<v)) hjl)
   have HT2:=Lib.hid (cF_take_succ (fun x=>decide (x<=v)) hjl)
   have hb1:=HTL.out (fun x=>decide (x<v)) (j+1)
   have hb2:=HTL.out (fun x=>decide (x<=v)) (j+1)
   rw[HT1.out] at hb1
   rw[HT2.out] at hb2
   have HSL:=Lib.hid (HSR.out j)
   have hlc:(lvl L j).length<=1000000:=by have:=lvl_le_cnt L j;omega
   obtain⟨l,hl⟩:∃l,lvl L j=l:=⟨_,rfl⟩
   rw[hl] at c2 ol HT1 HT2 hb1 hb2 HSL hlc
   have HB:=Lib.hid (OwnE.bs (base:=0) (ol.rd.keep (below_drewN (Below.refl _ _) d)) HSL.out (by omega) v)
   have OL:=Lib.hid ol
   have hcl:=count_le l v
   have hcle:l.countP (fun x=>decide (x<=v))<=l.length:=List.countP_le_length
   have HEQ:=Lib.hid (fun(i:Nat) (hi:i<l.length) h1=>srt_eq (v:=v) HSL.out hi h1)
   obtain⟨p,hp⟩:∃p,l.countP (fun x=>decide (x<v))=p:=⟨_,rfl⟩
   obtain⟨r,hr⟩:∃r,l.countP (fun x=>decide (x<=v))=r:=⟨_,rfl⟩
   obtain⟨t1,ht1⟩:∃t,cF (fun x=>decide (x<v)) 1 (L.take j)=t:=⟨_,rfl⟩
   obtain⟨t2,ht2⟩:∃t,cF (fun x=>decide (x<=v)) 1 (L.take j)=t:=⟨_,rfl⟩
   rw[hp] at HB hcl HT1 hb1 HEQ
   rw[hr] at hcl hcle HT2 hb2 HEQ
   rw[ht1] at HT1 hb1
   rw[ht2] at HT2 hb2
   rw[ht1,ht2]
   have c3:(w.drewN d).cell? ⟨gl,j,none⟩=_:=c2
   obtain⟨_,_,el,hl3,hl4,fl⟩:=ol.form
   injection el with el1 el2 el3
   subst el1;subst el3
   have FL:=Lib.hid fl
   have HW1:=Lib.hid (wt48 (c:=p) (h:=j) (by omega))
   have HW2:=Lib.hid (wt48 (c:=r) (h:=j) (by omega))
   obtain⟨m1,hm1⟩:∃m,p * 2 ^ j=m:=⟨_,rfl⟩
   obtain⟨m2,hm2⟩:∃m,r * 2 ^ j=m:=⟨_,rfl⟩
   rw[hm1] at HT1 hb1 HW1
   rw[hm2] at HT2 hb2 HW2
   clear hl ol hp hr ht1 ht2 fl el2 c2 hm1 hm2
   go_wp2_with fail
   refine(HB.out).mono ?_
   rintro e w1 ⟨rfl,q1,rfl⟩
   clear c3
   go_wp2_with fail
   go_loopg [12] (r - p) (fun q i wr=>∃(x d:Nat),q=r - x/\p<=x/\x<=r/\i=.int .i64 (x:Int)/\wr=w.drewN d)
   case atStart=>exact⟨p,_,rfl,Nat.le_refl _,hcl,rfl,by first|rfl|exact drewN_add _ _ _⟩
   case round=>
    obtain⟨x,d2,hq,hx1,hx2,rfl,rfl⟩:=hrel
    have HQ2:=Lib.hid hq
    clear hq
    by_cases hxr:x<r
    ·have hxl:x<l.length:=by omega
     obtain⟨ga,oa,eA,hga,ka⟩:=FL.out.i64 hxl
     subst eA
     have ke:=(HEQ.out x hxl hx1).2 hxr
     rw[ke] at ka
     have ka2:(w.drewN d2).cell? ⟨ga,oa+x,none⟩=_:=ka
     clear ka ke
     go_wp2_with fail
     go_roundg (r - (x+1))
     case measure=>have:=HQ2.out;omega
     case rel=>exact⟨x+1,_,rfl,by omega,by omega,by go_num,by first|rfl|exact drewN_add _ _ _⟩
    ·obtain rfl:x=r:=by omega
     by_cases hxl:x<l.length
     ·obtain⟨ga,oa,eA,hga,ka⟩:=FL.out.i64 hxl
      subst eA
      have hne:¬l[x]=v:=fun e=>by have:=(HEQ.out x hxl hx1).1 e;omega
      obtain⟨y,hy⟩:∃y,l[x]=y:=⟨_,rfl⟩
      rw[hy] at ka hne
      have ka2:(w.drewN d2).cell? ⟨ga,oa+x,none⟩=_:=ka
      have hw1:=HW1.out
      have hw2:=HW2.out
      clear ka hy
      go_wp2_with fail
      go_roundg (L.length - (j+1))
      case measure=>have:=HQ.out;omega
      case rel=>exact⟨j+1,_,rfl,by omega,by rw[HT1.out];go_num,by rw[HT2.out];go_num,by go_num,by first|rfl|exact drewN_add _ _ _⟩
     ·have hxi:¬(x:Int)<(l.length:Int):=by omega
      have hw1:=HW1.out
      have hw2:=HW2.out
      go_wp2_with fail
      go_roundg (L.length - (j+1))
      case measure=>have:=HQ.out;omega
      case rel=>exact⟨j+1,_,rfl,by omega,by rw[HT1.out];go_num,by rw[HT2.out];go_num,by go_num,by first|rfl|exact drewN_add _ _ _⟩
  ·obtain rfl:j=L.length:=by omega
   rw[HC.out,HC.out]
   go_wp2_with fail
   refine bodyPost_ret (by simp[results,Tryz.results248,go_sem, *];try rfl) rfl ?_
   exact⟨rfl,_,rfl⟩
open Go.RowKit
def addO(o:Option Int)(x:Int):Option Int:=match o with|none=>some x|some y=>if x<y then some x else some y
def pickO(p:Int->Bool)(o:Option Int)(x:Int):Option Int:=if p x then addO o x else o
def minP(p:Int->Bool)(l:List Int):Option Int:=l.foldl (pickO p) none
def allV(L:LL):List Int:=L.flatten
def atV(L:LL)(r:Nat):Int:=(minP (fun x=>decide (r<=uptoL L x)) (allV L)).getD 0
end Go.Proofs.YtilcnjbpmoijmaaGreat.K
