/- Parts of a proof: what its theorem reaches, words cut short. No condition of its own. -/
import Derived.Test.YtkiebccnpheloaaGreatPk06
import Derived.Shelf.Spec.SlicesGrow
set_option maxRecDepth 100000
set_option maxHeartbeats 16000000
set_option linter.unusedVariables false
set_option linter.unusedSimpArgs false
namespace Go.Proofs.YtkiebccnpheloaaGreat
open Go.RowKit Go.Lib
theorem QF:(Tryz.prog.info? 231).map (fun i=>(i.zero,i.size,i.bytes))=some (some (.agg #[.int .i64 0,.int .u64 0]),2,16):=by kernel_rfl
theorem gm{w:World}{ops:Array Oper}{rest:List Oper}{o:Oper}{a:Act}{Q:Exit->Act->World->Prop}(hgd:o.guard=none)(s x:Operand)
 (ho:o.op=.call {callee:=.builtin .append,args:=#[s,x],argTypes:=#[149,149]})
 (base:Nat) (v:Value) (xs:List Mn) (hs:a.eval s=v) (hown:dU base w v xs)
 (u:Value) (news:List Mn) (hx:a.eval x=u) (hr:nN w u news)
 (hlen:xs.length+news.length<=1099511627776) (hbase:base<=w.heap.size)
 (h:∀v' w',dU base w' v' (xs++news)->w.grownBy w' v.ownBlock->(v'.ownBlock=v.ownBlock\/v'.ownBlock=some w.heap.size)->wpList Tryz.prog ops Q rest (a.put o.dst v') w'):wpList Tryz.prog ops Q (o::rest) a w:=by
 obtain⟨i0,hi,hz0,hz1,hz2⟩:=info_parts QF;obtain⟨A,c,rfl,_,_,_⟩:=hr.form;refine jG w hgd s x 149 ho base 231 i0 _ 2 16 Tryz.underlying149 hi hz0 hz1 hz2 rfl ae v xs.length (fD xs) hs hown A news.length c (fD news) hx hr (Bo _)
  (by unfold maxLen;omega) ae hbase fun v' w' h1 h2 h3=>h v' w' ?_ h2 h3
 unfold dU;rw[aI,ve];exact h1
theorem zD{w:World}{o:Oper}{a:Act}{K:Act->World->Prop}{Q:Exit->Act->World->Prop}(s x:Operand)
 (ho:o.op=.call {callee:=.builtin .append,args:=#[s,x],argTypes:=#[149,149]})
 (base:Nat) (v:Value) (xs:List Mn) (hs:a.eval s=v) (hown:dU base w v xs)
 (u:Value) (news:List Mn) (hx:a.eval x=u) (hr:nN w u news)
 (hlen:xs.length+news.length<=1099511627776) (hbase:base<=w.heap.size)
 (h:∀v' w',dU base w' v' (xs++news)->w.grownBy w' v.ownBlock->(v'.ownBlock=v.ownBlock\/v'.ownBlock=some w.heap.size)->K (a.put o.dst v') w'):o.wp Tryz.prog a w K Q:=by
 obtain⟨i0,hi,hz0,hz1,hz2⟩:=info_parts QF;obtain⟨A,c,rfl,_,_,_⟩:=hr.form;refine ng w s x 149 ho base 231 i0 _ 2 16 Tryz.underlying149 hi hz0 hz1 hz2 rfl ae v xs.length (fD xs) hs hown A news.length c (fD news) hx hr (Bo _)
  (by unfold maxLen;omega) ae hbase fun v' w' h1 h2 h3=>h v' w' ?_ h2 h3
 unfold dU;rw[aI,ve];exact h1
def sU(w:World)(g:Nat)(F:Nat->Prop)(d:Int)(L W:List Mn)(lo hi:Int):Prop:=
 ∃lv wv,dH w g 151 #[.int .i64 d,lv,wv,.int .i64 lo,.int .i64 hi]/\dU 0 w lv L/\dU 0 w wv W/\F g/\(∀k,lv.ownBlock=some k->F k)/\(∀k,wv.ownBlock=some k->F k) /\
  (∀k,wv.ownBlock=some k->lv.ownBlock≠some k)/\(∀k,F k->k<w.heap.size)
theorem sU.stay{w w':World}{g:Nat}{F:Nat->Prop}{d lo hi:Int}{L W:List Mn}(h:sU w g F d L W lo hi)(hk:∀k,F k->w'.heap[k]?=w.heap[k]?)(hz:w.heap.size<=w'.heap.size):sU w' g F d L W lo hi:=by
 obtain⟨lv,wv,hb,hl,hw,hg,h1,h2,h3,h4⟩:=h;exact⟨lv,wv,(hk g hg).trans hb,hl.stay fun k e=>hk k (h1 k e),hw.stay fun k e=>hk k (h2 k e),hg,h1,h2,h3,fun k hf=>aU (h4 k hf) hz⟩
theorem sU.keep{w w':World}{g:Nat}{F:Nat->Prop}{d lo hi:Int}{L W:List Mn}(h:sU w g F d L W lo hi)(hb:Below w.heap.size w w'):sU w' g F d L W lo hi:=by
 have h4:=h;obtain⟨lv,wv,_,_,_,_,_,_,_,h4⟩:=h4;exact h.stay (fun k hk=>hb.block k (h4 k hk)) hb.size
theorem jC(g:Nat)(F:Nat->Prop)(d lo hi:Int)(L W:List Mn)(w:World)(h:sU w g F d L W lo hi)(hlen:L.length+W.length<=1099511627776) :
 Calls Tryz.prog 129 #[.pointer (some ⟨g,0,none⟩)] w fun e w'=>∃v,e=.returned v/\dU w.heap.size w' v (L++W)/\Below w.heap.size w w':=by
 obtain⟨lv,wv,hb,hl,hw,hg,h1,h2,h3,h4⟩:=h;have c1:=hb.cell 1;have c2:=hb.cell 2;simp only[aF,aG,aC] at c1 c2;have hlt:=hb.lt;have HL:=aB hl;have HW:=aB hw;clear hb hl hw h1 h2 h3 h4
 go_enter Tryz.func129,Tryz.ntmps129
 go_wp2_with (first
  | (at_builtin
     refine gm rfl (.tmp 4) (.tmp 8) rfl w.heap.size (.slice none 0 0) [] rfl (dU.nil_ _ _) lv L rfl HL.out.rd (by simp only[bf];omega) (aK _) ?_
     intro v1 w1 o1 g1 a1;have hb1:Below w.heap.size w w1:=(aH _ _).grown g1 (aK _) (by simp[Value.ownBlock])
     have hz1:=hb1.size;have⟨hc1,hf1⟩:=zC hb1;have O1:=aB o1;clear o1 g1 a1)
  | (at_builtin
     refine gm rfl (.tmp 10) (.tmp 14) rfl w.heap.size v1 ([]++L) rfl O1.out wv W rfl (HW.out.keep hb1).rd (by simp only[List.nil_append];omega) ae ?_
     intro v2 w2 o2 g2 a2;have hb2:Below w.heap.size w w2:=hb1.grown g2 hz1 (fun k hk=>(O1.out.lt k hk).1)
     have O2:=aB o2;clear o2 g2 a2))
 go_ret;exact⟨v2,rfl,O2.out,hb2⟩
structure QG(x:Mn)(out:List Mn)(k:Nat):Prop where
 le:∀j (h:j<out.length),j<k->out[j].1<=x.1
theorem QG.next{x:Mn}{out:List Mn}{k:Nat}(h:QG x out k)(hk:k<out.length)(hx:out[k].1<=x.1):QG x out (k+1):=
 ⟨fun j hj hjk=>by
  rcases bJ j k with h1|h1
  ·exact h.le j hj h1
  ·have:j=k:=ae
   subst this;exact hx⟩
theorem S9(v:Value)(l:List Mn)(w:World)(h:nN w v l)(hlen:l.length<=1000000000) :
 Calls Tryz.prog 295 #[v] w fun e w'=>∃v,e=.returned v/\dU w.heap.size w' v (gY l)/\Below w.heap.size w w':=by
 obtain⟨A,c,rfl,hn,hc,hp⟩:=h.form;have HP:=aB hp;clear hp h
 go_enter Tryz.func295,Tryz.ntmps295
 go_wp2_with fail
 go_loopg [3,4] l.length (fun q o i wr=>∃j:Nat,q=l.length - j/\j<=l.length/\i=.int .i64 j/\dU w.heap.size wr o (gY (l.take j))/\Below w.heap.size w wr)
 case atStart=>exact⟨0,rfl,ae,rfl,dU.nil_ _ _,aH _ _⟩
 case round=>
  obtain⟨j,hk,hj,rfl,ho,hb⟩:=hrel;obtain⟨wo,rfl⟩:∃wo:World,wo=wr:=⟨_,rfl⟩;have HK:=aB hk;have hz:=hb.size;clear hk;have hol:=jy (l.take j);rw[bg,Nat.min_eq_left hj] at hol
  by_cases hlt:j<l.length
  ·have HT:=aB (E_ l j hlt)
   obtain⟨x,hx⟩:∃x,l[j]=x:=⟨_,rfl⟩;have HX:=aB hx;obtain⟨g,off,rfl,hg,c0,c1⟩:=(HP.out.keep hb).at_ hlt;rw[hx] at c0 c1;clear hx;obtain⟨S,hS⟩:∃S,gY (l.take j)=S:=⟨_,rfl⟩;rw[hS] at ho hol;have HS:=aB hS;have HO:=aB ho;obtain⟨B,d,rfl,hn2,hc2,ho2⟩:=ho.form;have HB:=aB ho2;have HL:=aB hol;have hsl:S.length<=1000000000:=ae
   clear hS ho ho2 hol
   go_upto_block 2 with fail
   go_cut [5,6] (fun nv kv wr=>∃k:Nat,kv=.int .i64 k/\k<=S.length/\dU wo.heap.size wr nv (S.take k)/\Hid (ins x S=S.take k++x::S.drop k)/\Below wo.heap.size wo wr)
   case first=>
    go_wp2_with fail
    go_loopg [5,6] S.length (fun r nv kv wr=>∃k:Nat,r=S.length - k/\kv=.int .i64 k/\k<=S.length/\dU wo.heap.size wr nv (S.take k)/\Hid (QG x S k)/\Below wo.heap.size wo wr)
    case atStart=>exact⟨0,rfl,rfl,ae,dU.nil_ _ _,⟨fun j _ h=>absurd h ae⟩,aH _ _⟩
    case round=>
     obtain⟨q,hk,rfl,hq,hown,hi,hb2⟩:=hrel;have HK2:=aB hk;have hz2:=hb2.size;have HN:=aB hown;clear hk hown;have d0:=(hb2.cell (p:=⟨g,off+j * 2,none⟩) hg).trans c0
     by_cases hlt2:q<S.length
     ·obtain⟨g2,bd5,rfl,hg2,e0,e1⟩:=(HB.out.keep hb2).at_ hlt2
      by_cases hle:S[q].1<=x.1
      ·have HI:=aB (hi.out.next hlt2 hle)
       go_wp2_with fail
       go_quiet (fail)
       go_wp2_with (first
        | (at_builtin
           refine gm rfl (.tmp 30) (.tmp 35) rfl wo.heap.size u5 (S.take q) rfl ((HN.out.drewN _).alloc _) _ [S[q]] rfl (nN.one _ S[q]) (by simp only[bg,bK];omega) (by simp only[aO,fG];omega) ?_
           intro v1 w1 o1 g1 a1;have hb1:Below wo.heap.size wo w1:=((below_drewN hb2 _).alloc (by simp only[fG];omega) _).grown g1 (by simp only[aO,fG];omega) (fun k hk=>(HN.out.lt k hk).1)
           have O1:=aB o1;clear o1 g1 a1))
       go_roundg (S.length - (q+1))
       case measure=>have:=HK2.out;omega
       case rel=>exact⟨q+1,rfl,ai,ae,by rw[aT hlt2];exact O1.out,HI,hb1⟩
      ·have HF:Hid (ins x S=S.take q++x::S.drop q):=yz x S q ae (fun j h hj=>hi.out.le j h hj) (fun _=>by omega)
       go_wp2_with fail
       go_quiet (fail)
       go_wp2_with fail
       go_meet
       exact⟨q,rfl,ae,HN.out.drewN _,HF,bw⟩
     ·have HF:Hid (ins x S=S.take q++x::S.drop q):=yz x S q ae (fun j h hj=>hi.out.le j h ae) (fun h=>absurd h hlt2)
      have hd:decide (q<S.length)=false:=ah
      go_wp2_with fail
      go_quiet (fail)
      go_wp2_with fail
      go_meet
      exact⟨q,rfl,ae,HN.out.drewN _,HF,bw⟩
   case rest=>
    obtain⟨q,rfl,hq,hown,HF,hb2⟩:=hcut;have HN:=aB hown;have hz2:=hb2.size;have d0:=(hb2.cell (p:=⟨g,off+j * 2,none⟩) hg).trans c0;have d1:=(hb2.cell (p:=⟨g,off+j * 2+1,none⟩) hg).trans c1;clear hown c0 c1
    go_upto_block 4 with(first
     | (at_builtin
        refine gm rfl (.tmp 39) (.tmp 44) rfl wo.heap.size u5 (S.take q) rfl (HN.out.alloc _) _ [x] rfl (nN.one _ x) (by simp only[bg,bK];omega) (by simp only[aO];omega) ?_
        intro v1 w1 o1 g1 a1;have hb1:Below wo.heap.size wo w1:=(hb2.alloc ae _).grown g1 (by simp only[aO];omega) (fun k hk=>(HN.out.lt k hk).1)
        have O1:=aB o1;clear o1 g1 a1))
    obtain⟨T,hT⟩:∃T,ins x S=T:=⟨_,rfl⟩;rw[hT] at HF;obtain⟨tl,t1,t2⟩:=V9 HF.out hq;have T1:=aB t1;have T2:=aB t2;have TL:=aB tl;have ZY:=aB hT;have hz1:=hb1.size;clear t1 t2 tl hT HN hz2 d0 d1 hb2
    go_cut [5,6] (fun nv kv wr=>dU wo.heap.size wr nv T/\Below wo.heap.size wo wr)
    case first=>
     go_wp2_with fail
     go_loopg [5,6] (S.length - q) (fun r nv kv wr=>∃k:Nat,r=S.length - k/\kv=.int .i64 k/\q<=k/\k<=S.length/\dU wo.heap.size wr nv (T.take (k+1))/\Below wo.heap.size wo wr)
     case atStart=>exact⟨q,rfl,rfl,ae,ae,by rw[T1.out];exact O1.out,hb1⟩
     case round=>
      obtain⟨k,hk,rfl,hqk,hkS,hown,hb2⟩:=hrel;have HK2:=aB hk;have hz2:=hb2.size;have HN:=aB hown;clear hk hown
      by_cases hlt2:k<S.length
      ·obtain⟨g2,bd5,rfl,hg2,e0,e1⟩:=(HB.out.keep hb2).at_ hlt2
       go_wp2_with (first
        | (at_builtin
           refine gm rfl (.tmp 50) (.tmp 55) rfl wo.heap.size u5 (T.take (k+1)) rfl (HN.out.alloc _) _ [S[k]] rfl (nN.one _ S[k]) (by simp only[bg,bK];omega) (by simp only[aO];omega) ?_
           intro v2 w2 o2 g2 a2;have hb3:Below wo.heap.size wo w2:=(hb2.alloc ae _).grown g2 (by simp only[aO];omega) (fun k hk=>(HN.out.lt k hk).1)
           have O2:=aB o2;clear o2 g2 a2))
       go_roundg (S.length - (k+1))
       case measure=>have:=HK2.out;omega
       case rel=>exact⟨k+1,rfl,ai,ae,ae,by rw[T2.out k hlt2 hqk];exact O2.out,hb3⟩
      ·go_wp2_with fail
       go_meet
       exact⟨by have h:=HN.out;rwa [bH (by have:=TL.out;omega)] at h,hb2⟩
    case rest=>
     obtain⟨hown,hb2⟩:=hcut;have HN:=aB hown;have hz2:=hb2.size;clear hown
     go_wp2_with fail
     go_roundg (l.length - (j+1))
     case measure=>have:=HK.out;omega
     case rel=>exact⟨j+1,rfl,ae,ai,by rw[HT.out,HX.out,HS.out,ZY.out];exact HN.out.more hz,wV hb2 hz hb⟩
  ·have HN:=aB ho
   clear ho
   go_wp2_with fail
   go_ret;refine⟨_,rfl,?_,hb⟩
   have h:=HN.out
   rwa [bH (show l.length<=j by omega)] at h
open Go.RowKit Go.Lib
theorem Ia(d:Int)(v:Value)(l:List Mn)(w:World)(h:nN w v l)(ho:jY l)(hlen:l.length<=1000000000)(ht:tot l<=281474976710656)(d0:0<=d)(d1:d<=1000) :
 Calls Tryz.prog 200 #[.int .i64 d,v] w fun e w'=>∃v,e=.returned v/\dU w.heap.size w' v (sF d l)/\Below w.heap.size w w':=by
 have H:=aB h;have h2:=h.form;obtain⟨A0,c0,rfl,_,_,_⟩:=h2;clear h
 go_enter Tryz.func200,Tryz.ntmps200
 go_wp2_with fail;refine(S9 _ l _ H.out hlen).mono ?_
 rintro e w1 ⟨v1,rfl,o1,hb1⟩;have hz1:=hb1.size;have hsl:=jy l;have hst:=w_ l;have hr:=yA l;have hos:=ho.gY;have HPR:Hid (sF d l=nX d (tot (gY l)) (gY l)):=by show _=_;rw[sF,w_]
 obtain⟨S,hS⟩:∃S,gY l=S:=⟨_,rfl⟩;rw[hS] at o1 hsl hst hr hos HPR;have hsl1:S.length<=1000000000:=ae
 have hst1:tot S<=281474976710656:=ae
 have O1:=aB o1;obtain⟨A,c,rfl,hn,hc,hp⟩:=o1.form;have HP:=aB hp;have HR:=aB hr;clear o1 hp hS hsl hst hr
 go_wp2_with fail;refine(fE _ S _ O1.out.rd hos ae).mono ?_
 rintro e w2 ⟨rfl,hb2⟩;have hz2:=hb2.size
 go_wp2_with fail
 go_loopg [7,8,9] S.length (fun q o dn i wr=>∃j:Nat,q=S.length - j/\j<=S.length/\i=.int .i64 j/\Below w2.heap.size w2 wr /\
  ((j=0/\o=.slice none 0 0/\dn=.int .u64 0)\/(∃acc now,0<j/\sG d (tot S) S j acc now/\dn=.int .u64 (tot acc)/\dU w2.heap.size wr o (acc++[now]))))
 case atStart=>exact⟨0,rfl,ae,rfl,aH _ _,.inl ⟨rfl,rfl,rfl⟩⟩
 case round=>
  obtain⟨j,hk,hj,rfl,hb,hcase⟩:=hrel;have HK:=aB hk;have hz:=hb.size;clear hk
  by_cases hlt:j<S.length
  ·obtain⟨g,off,rfl,hg,e0,e1⟩:=((HP.out.keep hb2).keep hb).at_ hlt
   go_upto_block 1 with fail
   go_cut [7,8] (fun o dn wx=>Below w2.heap.size w2 wx/\∃acc now,sG d (tot S) S (j+1) acc now/\dn=.int .u64 (tot acc)/\dU w2.heap.size wx o (acc++[now]))
   case first=>
    rcases hcase with⟨rfl,rfl,rfl⟩|⟨acc,now,j0,hpr,rfl,hown⟩
    ·have HS:=aB (sG.start d hlt hos HR.out)
     have z0:((0:Nat):Int)=0:=rfl;simp only[Nat.zero_mul,Nat.add_zero] at e0 e1;rw[z0];clear z0
     go_wp2_with (first
      | (at_builtin
         refine gm rfl (.tmp 23) (.tmp 28) rfl w2.heap.size (.slice none 0 0) [] rfl (dU.nil_ _ _) _ [S[0]] rfl (nN.one _ S[0]) ag (by simp only[aO];omega) ?_
         intro v1 w3 o3 g3 a3;have hb3:Below w2.heap.size w2 w3:=(hb.alloc ae _).grown g3 (by simp only[aO];omega) (by simp[Value.ownBlock])
         have O3:=aB o3;clear o3 g3 a3))
     go_meet
     exact⟨hb3,[],S[0],HS.out,rfl,O3.out⟩
    ·obtain⟨f1,f2,f3,f4,f5⟩:=hpr.facts hlt
     have hlen2:=hpr.len;obtain⟨g2,c2,rfl,b1,b2,b3,b4⟩:=hown.pos ag
     have hj0:((j:Int) == 0)=false:=ah
     have at2:=hown.at_ (j:=acc.length) (by simp)
     rw[List.getElem_append_right ae] at at2
     simp only[Nat.sub_self,List.getElem_cons_zero] at at2;obtain⟨q0,q1,q2,q3⟩:=at2;have HO:=aB hown;have ZZ:=aB hpr;clear hown hpr;have MB:ZX d (tot S) (tot acc) (now.2+S[j].2):=⟨d0,d1,hst1,f1,by have:=f2.2.2;have:=f3.2.2;omega,f5⟩
     have p1:=f2.2.2;have p2:=f3.2.2;obtain⟨N,hN⟩:∃N,(acc++[now]).length=N:=⟨_,rfl⟩;obtain⟨m,hm⟩:∃m,acc.length=m:=⟨_,rfl⟩;have hNm:N=m+1:=by rw[<-hN,<-hm];simp
     rw[hm] at q0 q1 q2 q3 hlen2;rw[hN] at HO b3 |-;have hNI:(N:Int) - 1=(m:Int):=ae
     have i0:(0:Int)<=(m:Int):=ae
     have i1:(m:Int)<(N:Int):=ae
     have HM:=aB hm;have HN:=aB hN;clear hN hm hNm;have i2:(0:Int)<=((j:Nat):Int):=ae
     have i3:((j:Nat):Int)<((S.length:Nat):Int):=ae
     have s1:IntKind.u64.wrap (now.2+S[j].2)=now.2+S[j].2:=ah5 _ ae  ae
     go_upto_region 11 with fail
     go_region_held3 (fun w'=>w'.cell? ⟨g2,m * 2+1,none⟩=some (.int .u64 now.2)/\w'.cell? ⟨g,off+j * 2+1,none⟩=some (.int .u64 S[j].2)) (first|go_keep|exact⟨(hc3 _ _ aj).trans q1,(hc3 _ _ aj).trans e1⟩)
      (first|(go_at_call 296;refine(WG d (tot S) (tot acc) (now.2+S[j].2) _ MB).mono ?_;rintro e w3 ⟨rfl,hb3⟩;have⟨hc3,hf3⟩:=zC hb3;have hz3:=hb3.size;try simp only[aO,bZ,World.size_drew,World.fG] at hz3))
     have hs3:=hb3.size;have hg3:g2<w3.heap.size:=aU b2 hs3;have hg4:g<w3.heap.size:=aU hg hs3;replace q0:=(hc3 _ _ b2).trans q0;replace q1:=(hc3 _ _ b2).trans q1;replace q2:=(hf3 _ _ b2).trans q2;replace q3:=(hf3 _ _ b2).trans q3;replace e0:=(hc3 _ _ hg).trans e0;replace e1:=(hc3 _ _ hg).trans e1;clear hc3 hf3;have Z8:Below wr.heap.size wr w3:=(aH _ _).drew.trans hb3
     by_cases hmay:xk d (tot S) (tot acc) (now.2+S[j].2)=true
     ·have HP2:=aB (ZZ.out.merge hlt hmay)
      rw[hmay]
      go_upto_region 12 with fail;refine BQ (fun w'=>Below w3.heap.size w3 w') 36 (by kernel_rfl) (by kernel_rfl) (aH _ _).drew ?_
      simp only[List.take_succ_cons,List.take_zero,bD,bQ]
      iterate 36 (first
       | (refine SY rfl (fun R hR=>?_)
          apply aJ
          refine⟨fun w' hS'=>?_,?_⟩
          ·have k0:=(hS'.cell (p:=⟨_,_,none⟩) hg3).trans q0
           have k1:=(hS'.cell (p:=⟨_,_,none⟩) hg3).trans q1;have k2:=(hS'.cell (p:=⟨_,_,none⟩) hg4).trans e0;have k3:=(hS'.cell (p:=⟨_,_,none⟩) hg4).trans e1
           go_simp
           first
            | exact⟨rfl,hS'⟩
            | (refine(WH now.1 now.2 S[j].1 S[j].2 _ f2.1 f4 f3.2.1 ae p2 ae).mono ?_
               rintro e w4 ⟨rfl,hb4⟩;exact⟨rfl,hS'.trans (hb4.mono hS'.size)⟩)
          go_simp;refine hR _ ?_;clear hR R))
      refine NP ?_
      intro w5 hS5;have hs5:=hS5.size;have k2:=(hS5.frozen (p:=⟨_,_,none⟩) hg3).trans q2;have k3:=(hS5.frozen (p:=⟨_,_,none⟩) hg3).trans q3;have k0:=(hS5.cell (p:=⟨_,_,none⟩) hg3).trans q0;have k1:=(hS5.cell (p:=⟨_,_,none⟩) hg3).trans q1
      go_wp2_with fail
      go_meet
      exact⟨bw,acc,_,HP2.out,rfl,((HO.out.keep Z8).keep hS5).setLast _ HM.out HN.out⟩
     ·have Cc:xk d (tot S) (tot acc) (now.2+S[j].2)=false:=by simpa using hmay
      have HP2:=aB (ZZ.out.push hlt Cc);have HT:Hid (tot (acc++[now])=tot acc+now.2):=by show _=_;rw[dS];simp[tot]
      have hal:acc.length+1<=1000000000:=by have:=ZZ.out.len;omega
      rw[Cc];clear hmay Cc
      go_wp2_with (first
       | (at_builtin
          refine gm rfl (.tmp 91) (.tmp 96) rfl w2.heap.size (.slice (some ⟨g2,0,none⟩) N c2) (acc++[now]) rfl ((HO.out.keep Z8).alloc _) _ [S[j]] rfl (nN.one _ S[j]) (by simp only[aI,bK];omega) aj ?_
          intro v1 w6 o6 g6 a6;have hb6:Below w2.heap.size w2 w6:=((hb.trans (Z8.mono hz)).alloc aj _).grown g6 aj (fun k hk=>((HO.out.keep Z8).lt k hk).1)
          have O6:=aB o6;clear o6 g6 a6))
      go_meet
      exact⟨hb6,acc++[now],S[j],HP2.out,by rw[HT.out],O6.out⟩
   case rest=>
    obtain⟨hb4,acc,now,hpr,rfl,hown⟩:=hcut;have ZZ:=aB hpr;have HO:=aB hown;clear hpr hown hcase
    go_wp2_with fail
    go_roundg (S.length - (j+1))
    case measure=>have:=HK.out;omega
    case rel=>exact⟨j+1,rfl,ae,ai,hb4,.inr ⟨acc,now,ae,ZZ.out,rfl,HO.out⟩⟩
  ·have hjS:j=S.length:=ae
   rcases hcase with⟨h0,rfl,rfl⟩|⟨acc,now,j0,hpr,rfl,hown⟩
   ·have h0':S=[]:=aW ae
    have HE:Hid (sF d l=[]):=by show _=_;rw[HPR.out,h0'];rfl
    go_wp2_with fail
    go_ret;exact⟨_,rfl,by rw[HE.out];exact dU.nil_ _ _,bw⟩
   ·have HE:Hid (sF d l=acc++[now]):=by
     show _=_
     rw[hjS] at hpr;rw[HPR.out,hpr.fin]
    have HO:=aB hown;clear hpr hown hjS
    go_wp2_with fail
    go_ret;exact⟨_,rfl,by rw[HE.out];exact HO.out.more ae,bw⟩
open Go.RowKit Go.Lib
theorem ak9(n:Nat)(w:World)(hn:n<=1099511627776) :
 Calls Tryz.prog 263 #[.slice none 0 0,.int .i64 n] w fun e w'=>∃v,e=.returned v/\dU w.heap.size w' v []/\Below w.heap.size w w':=by
 obtain⟨i0,hi,hz0,hz1,hz2⟩:=info_parts QF
 by_cases h0:n=0
 ·subst h0
  go_enter Tryz.func263,Tryz.ntmps263
  go_wp2_with fail
  go_ret;exact⟨_,rfl,dU.nil_ _ _,bw⟩
 ·have hold:(Builtin.firstCells i0.size 0 (.slice none 0 0)).run Tryz.prog w.drew=.ok #[] w.drew:=run_firstCells_none w.drew i0.size 0 0 0
  have hrz:∀ty,(Builtin.append_ #[149,3] ty #[.slice none 0 0,.int .i64 (n:Int)]).run Tryz.prog w =
   .ok (.slice (some ⟨w.heap.size,0,none⟩) n (grownCap w n 0 231)) (w.drew.alloc (.cells (([]:List Value).toArray++Builtin.zeroCells (Value.agg #[.int .i64 0,.int .u64 0]).cells n++Builtin.zeroCells (Value.agg #[.int .i64 0,.int .u64 0]).cells (grownCap w n 0 231 - n)) 231)):=fun ty=>by
   have h:=Lib.run_append_grow_zeros w 149 3 ty 231 i0 _ .i64 .i64 Tryz.underlying149 Tryz.underlying3 hi hz0 none 0 0 [] hold n ae  ae  ae  ae (by rw[hz2];omega) (growslice_fits ae (by rw[hz2];omega))
   simpa using h
  have hGn:n<=grownCap w n 0 231:=grownCap_ge w _ _ _;have hG63:grownCap w n 0 231<=maxLen:=grownCap_le_maxLen w n 0 231 (by unfold maxLen;omega)
  obtain⟨G,hG⟩:∃G,grownCap w n 0 231=G:=⟨_,rfl⟩;rw[hG] at hrz hGn hG63;obtain⟨Z,hZ⟩:∃Z:Array Value,(([]:List Value).toArray++Builtin.zeroCells (Value.agg #[.int .i64 0,.int .u64 0]).cells n++Builtin.zeroCells (Value.agg #[.int .i64 0,.int .u64 0]).cells (G - n))=Z:=⟨_,rfl⟩;rw[hZ] at hrz;have hZs:Z.size=G * 2:=by
   rw[<-hZ,Array.size_append,Array.size_append,size_zeroCells,size_zeroCells];simp only[Value.cells,List.size_toArray,aP,bf];omega
  have HZ:=aB hZs;have HG:=aB hG63;have hG':G<=9223372036854775807:=by unfold maxLen at hG63;omega
  clear hZ hZs hG hold hi hz0 hz1 hz2 hG63
  go_enter Tryz.func263,Tryz.ntmps263
  go_wp2_with (at_builtin;refine Lib.wpList_append_run _ rfl _ _ _ _ rfl _ _ rfl rfl _ _ (hrz _) ?_)
  go_ret;refine⟨_,rfl,?_,bw⟩
  exact⟨by simp[fD],.inr ⟨w.heap.size,G,Z,rfl,aK _,heap_alloc_new _ _,bW _,HG.out,HZ.out,by simp[fD]⟩⟩
theorem S_(w:World):dU w.heap.size (w.alloc (.cells #[] 231)) (.slice (some ⟨w.heap.size,0,none⟩) 0 0) []:=
 ⟨by simp[fD],.inr ⟨w.heap.size,0,#[],rfl,aK _,heap_alloc_new _ _,bW _,by unfold maxLen;omega,rfl,by simp[fD]⟩⟩
theorem QH(v:Value)(l:List Mn)(w:World)(h:nN w v l)(hlen:l.length<=1099511627776) :
 Calls Tryz.prog 253 #[v] w fun e w'=>∃v',e=.returned v'/\dU w.heap.size w' v' l/\Below w.heap.size w w':=by
 have H:=aB h;obtain⟨A,c,rfl,hn,hc,hp⟩:=h.form
 rcases A with _|a
 ·have hl:l=[]:=by
   rcases bT l.length with h0|h0
   ·exact aW h0
   ·obtain⟨g,off,hA,_⟩:=hp h0;cases hA
  subst hl;clear hp h;have he:(binOp .eql 149 (.slice none 0 c) (.slice none 0 0)).run Tryz.prog w=.ok (.bool true) w:=Lib.run_eql_slice_nil w _ _ _ _ _ _ _ Tryz.underlying149
  go_enter Tryz.func253,Tryz.ntmps253
  go_wp2_with fail
  go_ret;exact⟨_,rfl,dU.nil_ _ _,bw⟩
 ·clear hp h
  have he:(binOp .eql 149 (.slice (some a) l.length c) (.slice none 0 0)).run Tryz.prog w=.ok (.bool false) w:=Lib.run_eql_slice_nil w _ _ _ _ _ _ _ Tryz.underlying149
  go_enter Tryz.func253,Tryz.ntmps253
  go_wp2_with (first
   | (at_builtin
      go_must (refine gm rfl (.tmp 5) (.tmp 6) rfl w.heap.size (.slice (some ⟨w.heap.size,0,none⟩) 0 0) [] rfl (S_ w) (.slice (some a) l.length c) l rfl (H.out.keep ((aH _ _).alloc (aK _) _)) (by simp only[bf];omega) aj ?_)
      intro v1 w1 o1 g1 a1;have hb1:Below w.heap.size w w1:=((aH _ _).alloc (aK _) _).grown g1 aj (fun k hk=>by simp[Value.ownBlock] at hk;omega)
      have O1:=aB o1;clear o1 g1 a1))
  go_ret;exact⟨v1,rfl,O1.out,hb1⟩
def Ce(w:World)(g:Nat)(L:List (List Mn)):Prop:=∀i (h:i<L.length),∃v,w.cell? ⟨g,i,none⟩=some v/\nN w v L[i]
theorem Ce.keep{w w':World}{g:Nat}{L:List (List Mn)}(h:Ce w g L)(hg:g<w.heap.size)(hb:Below w.heap.size w w'):Ce w' g L:=fun i hi=>by
 obtain⟨v,h1,h2⟩:=h i hi;exact⟨v,(hb.cell (p:=⟨g,i,none⟩) hg).trans h1,h2.keep hb⟩
theorem sV(L:List (List Mn))(i:Nat)(h:i<L.length):(L.take (i+1)).flatten=(L.take i).flatten++L[i]:=by
 rw[aT h,List.flatten_append];simp
theorem qR(L:List (List Mn))(i:Nat):(L.take i).flatten.length<=L.flatten.length:=by
 have h:L.flatten=(L.take i).flatten++(L.drop i).flatten:=by rw[<-List.flatten_append,List.take_append_drop]
 rw[h,aI];omega
theorem JC(g:Nat)(L:List (List Mn))(w:World)(hg:g<w.heap.size)(h:Ce w g L)(hL:L.length<=1000)(hlen:L.flatten.length<=1099511627776) :
 Calls Tryz.prog 168 #[.slice (some ⟨g,0,none⟩) L.length L.length] w fun e w'=>∃v,e=.returned v/\dU w.heap.size w' v L.flatten/\Below w.heap.size w w':=by
 have H:=aB h;clear h
 go_enter Tryz.func168,Tryz.ntmps168
 go_wp2_with fail
 go_loopg [3,11] L.length (fun q sz i wr=>∃j z:Nat,q=L.length - j/\j<=L.length/\i=.int .i64 j/\sz=.int .i64 (z:Int)/\Hid ((L.take j).flatten.length=z)/\Below w.heap.size w wr)
 case atStart=>exact⟨0,0,rfl,ae,rfl,rfl,rfl,aH _ _⟩
 case round=>
  obtain⟨j,z,hk,hj,rfl,rfl,HZ,hb⟩:=hrel;have HK:=aB hk;have hz:=hb.size;clear hk;have hz0:z<=1099511627776:=by have:=qR L j;have:=HZ.out;omega
  by_cases hlt:j<L.length
  ·obtain⟨v,c0,r0⟩:=(H.out.keep hg hb) j hlt
   obtain⟨A,c,rfl,hn,hc,hp⟩:=r0.form;have HT:Hid ((L.take (j+1)).flatten.length=z+L[j].length):=by show _=_;rw[sV L j hlt,aI,HZ.out]
   have ht:z+L[j].length<=1099511627776:=by have:=qR L (j+1);have:=HT.out;omega
   clear hp r0
   go_wp2_with fail
   go_roundg (L.length - (j+1))
   case measure=>have:=HK.out;omega
   case rel=>exact⟨j+1,z+L[j].length,rfl,ae,ai,ai,HT,hb⟩
  ·have hjL:j=L.length:=ae
   have hzl:z<=1099511627776:=hz0;clear HK
   go_wp2_with (first|(go_at_call 263;refine(ak9 z _ hz0).mono ?_;rintro e w1 ⟨v1,rfl,o1,hb1⟩;have O1:=aB o1;have hz1:=hb1.size;clear o1))
   obtain⟨wa,rfl⟩:∃wa:World,wa=wr:=⟨_,rfl⟩
   go_loopg [6,27] L.length (fun q ns i wx=>∃k:Nat,q=L.length - k/\k<=L.length/\i=.int .i64 k/\dU wa.heap.size wx ns (L.take k).flatten/\Below wa.heap.size wa wx)
   case atStart=>exact⟨0,rfl,ae,rfl,O1.out,hb1⟩
   case round=>
    obtain⟨k,hk,hj,rfl,ho,hb2⟩:=hrel;have HK:=aB hk;have hz2:=hb2.size;have HO:=aB ho;clear hk ho
    by_cases hlt2:k<L.length
    ·obtain⟨v,c0,r0⟩:=(H.out.keep hg (hb.trans (hb2.mono hz))) k hlt2
     have R0:=aB r0;have HT:=aB (sV L k hlt2);have ht:(L.take k).flatten.length+L[k].length<=1099511627776:=by
      have h1:=qR L (k+1);rw[HT.out,aI] at h1;omega
     have HH:=aB ht;clear ht r0
     go_wp2_with (first
      | (at_builtin
         refine gm rfl (.tmp 31) (.tmp 32) rfl wa.heap.size u6 _ rfl HO.out v L[k] rfl R0.out HH.out ae ?_
         intro v2 w2 o2 g2 a2;have hb3:Below wa.heap.size wa w2:=hb2.grown g2 ae (fun x hx=>(HO.out.lt x hx).1)
         have O2:=aB o2;clear o2 g2 a2))
     go_roundg (L.length - (k+1))
     case measure=>have:=HK.out;omega
     case rel=>exact⟨k+1,rfl,ae,ai,by rw[HT.out];exact O2.out,hb3⟩
    ·have hkL:k=L.length:=ae
     have HF:Hid (L.take k=L):=by show _=_;rw[bH ae]
     clear hkL hjL
     go_wp2_with fail
     go_ret;refine⟨_,rfl,?_,hb.trans (hb2.mono hz)⟩
     have h1:=HO.out;rw[HF.out] at h1;exact h1.more hz
theorem al0(c:Nat)(hc:c<=1099511627776)(w:World):∃Z:Array Value,(Instr.makeSlice 149 (.int .i64 0) (.int .i64 (c:Int))).run Tryz.prog w=.ok (.slice (some ⟨w.heap.size,0,none⟩) 0 c) (w.alloc (.cells Z 231)) /\
 dU w.heap.size (w.alloc (.cells Z 231)) (.slice (some ⟨w.heap.size,0,none⟩) 0 c) []:=by
 obtain⟨i0,hi,hz0,hz1,hz2⟩:=info_parts QF;refine⟨_,pK 149 231 i0 _ Tryz.underlying149 hi hz0 .i64 .i64 0 c (bW _) (by rw[hz2];omega) ae w,?_⟩
 exact⟨by simp[fD],.inr ⟨w.heap.size,c,_,rfl,aK _,heap_alloc_new _ _,bW _,by unfold maxLen;omega,by rw[size_madeCells,hz1],by simp[fD]⟩⟩
end Go.Proofs.YtkiebccnpheloaaGreat
