/- Parts of a proof: what its theorem reaches, words cut short. No condition of its own. -/
import Derived.Test.YtkiebccnpheloaaGreatPv38
set_option maxRecDepth 100000
set_option maxHeartbeats 16000000
set_option linter.unusedVariables false
set_option linter.unusedSimpArgs false
namespace Go.Proofs.YtkiebccnpheloaaGreat.K
section
open Go.RowKit
def encV(p:Option Int)(v:Int):List Int:=match p with
 | none=>zg v
 | some q=>leb (v - q)
def wrV:Option Int->List Int->List Int
 | _,[]=>[]
 | p,v::l=>encV p v++wrV (some v) l
def wrL(l:List Int):List Int:=leb l.length++wrV none l
def wrLs:LL->List Int
 | []=>[]
 | l::L=>wrL l++wrLs L
def wrK(k:Int)(L:LL)(led:Nat):List Int:=leb k++(leb led++(leb L.length++wrLs L))
def lastV:Option Int->List Int->Option Int
 | p,[]=>p
 | _,v::l=>lastV (some v) l
theorem lastV_snoc(v:Int):∀(p:Option Int) (l:List Int),lastV p (l++[v])=some v
 | _,[]=>rfl
 | _,x::l=>lastV_snoc v (some x) l
theorem wrV_snoc(v:Int):∀(p:Option Int) (l:List Int),wrV p (l++[v])=wrV p l++encV (lastV p l) v
 | p,[]=>by simp[wrV,lastV]
 | p,x::l=>by simp only[List.cons_append,wrV,wrV_snoc v (some x) l,lastV,List.append_assoc]
theorem wrV_take0{l:List Int}(h:0<l.length):wrV none (l.take 1)=wrV none (l.take 0)++zg l[0]:=by
 have:=wrV_snoc l[0] none (l.take 0)
 rw[<-List.take_succ_eq_append_getElem h] at this
 rw[this]
 simp[lastV,encV]
theorem wrV_take{l:List Int}{j:Nat}(h:j+1<l.length):wrV none (l.take (j+1+1))=wrV none (l.take (j+1))++leb (l[j+1] - l[j]):=by
 have:=wrV_snoc l[j+1] none (l.take (j+1))
 rw[<-List.take_succ_eq_append_getElem h] at this
 rw[this,List.take_succ_eq_append_getElem (show j<l.length by omega),lastV_snoc]
 rfl
theorem wrLs_append:∀(A B:LL),wrLs (A++B)=wrLs A++wrLs B
 | [],B=>rfl
 | a::A,B=>by rw[List.cons_append,wrLs,wrLs_append A B,wrLs,List.append_assoc]
theorem wrLs_take{L:LL}{j:Nat}(h:j<L.length):wrLs (L.take (j+1))=wrLs (L.take j)++wrL (lvl L j):=by
 rw[List.take_succ_eq_append_getElem h,wrLs_append,lvl_at h]
 simp[wrLs]
theorem encV_len(p:Option Int)(v:Int):1<=(encV p v).length/\(encV p v).length<=10:=by
 unfold encV
 split
 ·exact leb_len _
 ·exact leb_len _
theorem wrV_len:∀(p:Option Int) (l:List Int),(wrV p l).length<=10 * l.length
 | _,[]=>by simp[wrV]
 | p,v::l=>by
  have h1:=wrV_len (some v) l
  have h2:=encV_len p v
  simp only[wrV,List.length_append,List.length_cons]
  omega
theorem wrL_len(l:List Int):(wrL l).length<=10 * l.length+10:=by
 have h1:=wrV_len none l
 have h2:=leb_len (l.length:Int)
 unfold wrL
 rw[List.length_append];omega
theorem wrLs_len:∀(L:LL),(wrLs L).length<=10 * cnt L+10 * L.length
 | []=>by simp[wrLs]
 | l::L=>by
  have h1:=wrLs_len L
  have h2:=wrL_len l
  rw[wrLs,List.length_append,cnt_cons,List.length_cons];omega
theorem wrLs_take_len(L:LL)(j:Nat):(wrLs (L.take j)).length<=10 * cnt L+10 * L.length:=by
 have h1:=wrLs_len (L.take j)
 have h2:=cnt_append (L.take j) (L.drop j)
 rw[List.take_append_drop] at h2
 have h3:(L.take j).length<=L.length:=by rw[List.length_take];omega
 omega
def I64L(l:List Int):Prop:=∀x∈l,-9223372036854775808<=x/\x<=9223372036854775807
end
section
open Go.RowKit Go.Lib
theorem kput_any(c n x:Int)(base:Nat)(vb:Value)(bs:List Int)(w:World)(hb0:base<=w.heap.size)(hO:OwnB base w vb bs)(hl:bs.length<=1000000000000)(hc:(c=118/\x=n/\0<=n/\n<18446744073709551616)\/(c=122/\n=ub x/\-9223372036854775808<=x/\x<=9223372036854775807)) :
 Calls Tryz.prog 187 #[vb,.int .u8 c,.int .u64 n] w fun e w'=>∃v,e=.returned v/\OwnB base w' v (bs++(if c=118 then leb x else zg x))/\Below base w w':=by
 have HO:=Lib.hid hO
 have C1:=Lib.hid (rone_any c n x w hc)
 have hlen:(if c=118 then leb x else zg x).length<=10:=by split;exact(leb_len _).2;exact(leb_len _).2
 generalize (if c=118 then leb x else zg x)=out at *
 clear hO hc
 go_enter Tryz.func187,Tryz.ntmps187
 go_wp2_with fail
 refine(C1.out).mono ?_
 rintro e w1 ⟨v1,rfl,o1,hb1⟩
 have O1:=Lib.hid o1
 have hz1:=hb1.size
 clear o1
 go_wp2_with (first
  | (at_builtin
     go_must (refine append_B rfl (.tmp 15) (.tmp 16) rfl base vb bs rfl (OwnI.keep HO.out hb1) v1 out rfl (OwnI.rd O1.out) (by omega) (by omega) ?_)
     intro v2 w2 o2 g2 a2
     have hb2:Below base w w2:=(hb1.mono hb0).grown g2 (by omega) (fun k hk=>(OwnI.lt HO.out k hk).1)
     have O2:=Lib.hid o2
     clear o2 g2 a2))
 go_ret
 exact⟨v2,rfl,O2.out,hb2⟩
theorem kputv_any(n:Int)(base:Nat)(vb:Value)(bs:List Int)(w:World)(hb0:base<=w.heap.size)(hO:OwnB base w vb bs)(hl:bs.length<=1000000000000)(n0:0<=n)(n1:n<18446744073709551616) :
 Calls Tryz.prog 187 #[vb,.int .u8 118,.int .u64 n] w fun e w'=>∃v,e=.returned v/\OwnB base w' v (bs++leb n)/\Below base w w':=by
 have h:=kput_any 118 n n base vb bs w hb0 hO hl (.inl ⟨rfl,rfl,n0,n1⟩)
 rwa [if_pos rfl] at h
theorem kputz_any(x n:Int)(base:Nat)(vb:Value)(bs:List Int)(w:World)(hb0:base<=w.heap.size)(hO:OwnB base w vb bs)(hl:bs.length<=1000000000000)(hn:n=ub x)(h0:-9223372036854775808<=x)(h1:x<=9223372036854775807) :
 Calls Tryz.prog 187 #[vb,.int .u8 122,.int .u64 n] w fun e w'=>∃v,e=.returned v/\OwnB base w' v (bs++zg x)/\Below base w w':=by
 have h:=kput_any 122 n x base vb bs w hb0 hO hl (.inr ⟨rfl,hn,h0,h1⟩)
 rwa [if_neg (by omega)] at h
theorem rwk_any(k:Int)(v:Value)(L:LL)(led:Nat)(w:World)(h:LLR w v L)(k0:0<=k)(k1:k<=9223372036854775807)(hled:led<18446744073709551616)(hlen:L.length<=1000)(hcnt:cnt L<=1000000000)(hs:∀j,Srt (lvl L j)/\I64L (lvl L j)) :
 Calls Tryz.prog 89 #[.int .i64 k,v,.int .u64 led] w fun e w'=>∃v,e=.returned v/\OwnB w.heap.size w' v (wrK k L led)/\Below w.heap.size w w':=by
 obtain⟨A,c,rfl,hc1,hc2⟩:=h.form
 have HL:=Lib.hid h
 have HS:=Lib.hid hs
 have HTL:=Lib.hid (fun j=>wrLs_take_len L j)
 have HLC:=Lib.hid (fun j=>lvl_le_cnt L j)
 have b1:=leb_len k
 have b2:=leb_len (led:Int)
 have b3:=leb_len (L.length:Int)
 have HALL:=Lib.hid (show wrK k L led=[]++leb k++leb led++leb L.length++wrLs (L.take L.length) by unfold wrK;simp)
 clear h hs
 go_enter Tryz.func89,Tryz.ntmps89
 go_wp2_with fail
 refine(kputv_any k w.heap.size _ [] w (Nat.le_refl _) (OwnI.nil_ _ _ _ _) (by simp) k0 (by omega)).mono ?_
 rintro e w1 ⟨v1,rfl,o1,hb1⟩
 have O1:=Lib.hid o1
 have hz1:=hb1.size
 clear o1
 go_wp2_with fail
 refine(kputv_any (led:Int) w.heap.size v1 ([]++leb k) w1 hz1 O1.out (by simp;omega) (by omega) (by omega)).mono ?_
 rintro e w2 ⟨v2,rfl,o2,hb2⟩
 have O2:=Lib.hid o2
 have HB2:=Lib.hid (hb1.trans hb2)
 have hz2:=HB2.out.size
 clear o2 hb1 hb2
 go_wp2_with fail
 refine(kputv_any (L.length:Int) w.heap.size v2 ([]++leb k++leb led) w2 hz2 O2.out (by simp;omega) (by omega) (by omega)).mono ?_
 rintro e w3 ⟨v3,rfl,o3,hb3⟩
 obtain⟨H,hH⟩:∃H,[]++leb k++leb led++leb (L.length:Int)=H:=⟨_,rfl⟩
 have hHl:H.length<=30:=by rw[<-hH];simp;omega
 rw[hH] at o3 HALL
 have O3:=Lib.hid o3
 have HB3:=Lib.hid (HB2.out.trans hb3)
 have hz3:=HB3.out.size
 clear o3 hb3 hH b1 b2 b3
 go_wp2_with fail
 go_loopg [7,8,9] L.length (fun q v i _ wr=>∃j:Nat,q=L.length - j/\j<=L.length/\i=.int .i64 (j:Int)/\Hid (OwnB w.heap.size wr v (H++wrLs (L.take j)))/\Hid (Below w.heap.size w wr))
 case atStart=>exact⟨0,by omega,by omega,rfl,Lib.hid (by simpa[wrLs] using O3.out),HB3⟩
 case round=>
  obtain⟨j,hq,hj,rfl,HO,HB⟩:=hrel
  have HQ:=Lib.hid hq
  clear hq
  have hz:=HB.out.size
  have htl:=HTL.out j
  by_cases hjl:j<L.length
  ·obtain⟨gl,off,sA,sc,eA,hgl,ca,ra⟩:=HL.out.at_ hjl
   subst eA
   obtain⟨_,_,ea,ha3,ha4,fa⟩:=ra.form
   injection ea with ea1 ea2 ea3
   subst ea1;subst ea3
   have HT:=Lib.hid (wrLs_take hjl)
   have hlc:=HLC.out j
   obtain⟨hsr,hbd⟩:=HS.out j
   have hbb:=leb_len ((lvl L j).length:Int)
   obtain⟨l,hl⟩:∃l,lvl L j=l:=⟨_,rfl⟩
   rw[hl] at ca fa HT hlc hsr hbd hbb ha3
   have FA:=Lib.hid fa
   have CA:=Lib.hid ca
   have HSR:=Lib.hid hsr
   have HBD:=Lib.hid hbd
   have c1:=(HB.out.cell (p:=⟨gl,off+j,none⟩) hgl).trans ca
   have hlen1:(H++wrLs (L.take j)).length<=20000000000:=by rw[List.length_append];omega
   have hji:(j:Int)<(L.length:Int):=by omega
   clear hl ra ea2 fa ca hsr hbd
   go_wp2_with fail
   refine(kputv_any (l.length:Int) w.heap.size u7 (H++wrLs (L.take j)) wr hz HO.out (by omega) (by omega) (by omega)).mono ?_
   rintro e w4 ⟨v4,rfl,o4,hb4⟩
   obtain⟨G,hG⟩:∃G,H++wrLs (L.take j)++leb (l.length:Int)=G:=⟨_,rfl⟩
   have hGl:G.length<=20000000010:=by rw[<-hG,List.length_append];omega
   have HGE:Hid (H++wrLs (L.take (j+1))=G++wrV none (l.take l.length)):=Lib.hid (by rw[HT.out,<-hG,wrL,List.take_length];simp)
   rw[hG] at o4
   have O4:=Lib.hid o4
   have HB4:=Lib.hid (HB.out.trans hb4)
   clear o4 hb4 hG hbb hlen1 c1 HT
   go_wp2_with fail
   go_loopg [7,9] l.length (fun q v i wr=>∃t:Nat,q=l.length - t/\t<=l.length/\i=.int .i64 (t:Int)/\Hid (OwnB w.heap.size wr v (G++wrV none (l.take t)))/\Hid (Below w.heap.size w wr))
   case atStart=>exact⟨0,by omega,by omega,rfl,Lib.hid (by simpa[wrV] using O4.out),HB4⟩
   case round=>
    obtain⟨t,hq2,ht,rfl,HO2,HB2⟩:=hrel
    have HQ2:=Lib.hid hq2
    clear hq2
    have hzw:=HB2.out.size
    have c1:=(HB2.out.cell (p:=⟨gl,off+j,none⟩) hgl).trans CA.out
    by_cases htl2:t<l.length
    ·obtain⟨ga,oa,eA,hga,ka⟩:=FA.out.i64 htl2
     subst eA
     have hx:=HBD.out l[t] (List.getElem_mem htl2)
     have hgt:(G++wrV none (l.take t)).length<=100000000000:=by
      have:=wrV_len none (l.take t)
      have h2:(l.take t).length<=l.length:=by rw[List.length_take];omega
      rw[List.length_append];omega
     have KA:=Lib.hid ka
     have hti:(t:Int)<(l.length:Int):=by omega
     rcases Nat.eq_zero_or_pos t with rfl|ht0
     ·have HTK:=Lib.hid (wrV_take0 htl2)
      have k1:=(HB2.out.cell (p:=⟨ga,oa+0,none⟩) hga).trans ka
      obtain⟨x,hxx⟩:∃x,l[0]=x:=⟨_,rfl⟩
      simp only[hxx,Nat.add_zero] at k1 hx HTK
      have z0:((0:Nat):Int)=0:=rfl
      rw[z0]
      clear hxx ka z0
      go_wp2_with fail
      refine(kputz_any x _ w.heap.size u7 (G++wrV none (l.take 0)) wr hzw HO2.out (by omega) (by rw[u64w];rfl) hx.1 hx.2).mono ?_
      rintro e w5 ⟨v5,rfl,o5,hb5⟩
      have O5:Hid (OwnB w.heap.size w5 v5 (G++wrV none (l.take 1))):=Lib.hid (by rw[HTK.out,<-List.append_assoc];exact o5)
      have HB5:=Lib.hid (HB2.out.trans hb5)
      clear o5 hb5
      go_wp2_with fail
      go_roundg (l.length - (0+1))
      case measure=>have:=HQ2.out;omega
      case rel=>exact⟨1,rfl,by omega,by go_num,O5,HB5⟩
     ·obtain⟨s,rfl⟩:∃s,t=s+1:=⟨t - 1,by omega⟩
      have hsl:s<l.length:=by omega
      have HTK:=Lib.hid (wrV_take htl2)
      obtain⟨ga',oa',eA,_,kb⟩:=FA.out.i64 hsl
      injection eA with eA
      injection eA with eA1 eA2
      subst eA1;subst eA2
      have hle:=srt_next HSR.out htl2
      have hy:=HBD.out l[s] (List.getElem_mem hsl)
      have KB:=Lib.hid kb
      obtain⟨x,hxx⟩:∃x,l[s+1]=x:=⟨_,rfl⟩
      obtain⟨y,hyy⟩:∃y,l[s]=y:=⟨_,rfl⟩
      simp only[hxx,hyy] at KA KB HTK hx hy hle
      have EW:=Lib.hid (show IntKind.u64.wrap (IntKind.u64.wrap x - IntKind.u64.wrap y)=x - y by simp only[u64w];omega)
      have hs1:((s+1:Nat):Int) - 1=(s:Int):=by omega
      have hst:(s:Int)<(l.length:Int):=by omega
      have ht0':((s+1:Nat):Int)≠0:=by omega
      have HWS:Hid (IntKind.i64.wrap (s:Int)=(s:Int)):=Lib.hid (IntWalk.i64_in _ (by omega))
      obtain⟨wo,rfl⟩:∃wo:World,wo=wr:=⟨_,rfl⟩
      clear hxx hyy ka kb
      go_upto_region 13 with fail
      clear c1
      have FBq:=Lib.hid (fun w' (hS':(fun w'=>Below w.heap.size w w') w')=>(And.intro ((hS'.cell (p:=⟨gl,off+j,none⟩) hgl).trans CA.out) (And.intro ((hS'.cell (p:=⟨ga,oa+(s+1),none⟩) hga).trans KA.out) (And.intro ((hS'.cell (p:=⟨ga,oa+s,none⟩) hga).trans KB.out) (And.intro (EW.out) (HWS.out))))))
      refine wp_region_plan (fun w'=>Below w.heap.size w w') [(0,true),(1,true),(2,true),(3,true),(4,true),(5,true),(6,true),(7,true),(8,true),(9,true),(10,true),(11,true),(12,true),(13,true),(14,true),(15,true),(16,true),(17,true),(18,true),(19,false),(20,true)] (by kernel_rfl) (by kernel_rfl) (HB2.out.drew) ?_
      iterate 19
       refine wpPlan_read (by rfl) (by rfl) (fun R hR=>?_)
       apply Exists.intro
       refine⟨fun w' hS'=>?_,?_⟩
       ·obtain⟨z1,z2,z3,ew,hws⟩:=FBq.out w' hS'
        go_simp
        exact⟨rfl,rfl⟩
       go_simp
       refine hR _ ?_
       clear hR R
      refine wpPlan_do (by rfl) (by rfl) (fun K hK=>?_)
      go_simp
      refine(kputv_any (x - y) w.heap.size u7 (G++wrV none (l.take (s+1))) wo.drew hzw (OwnI.drew HO2.out) (by omega) (by omega) (by omega)).mono ?_
      rintro e w5 ⟨v5,rfl,o5,hb5⟩
      have O5:Hid (OwnB w.heap.size w5 v5 (G++wrV none (l.take (s+1+1)))):=Lib.hid (by rw[HTK.out,<-List.append_assoc];exact o5)
      have HB5:Hid (Below w.heap.size w w5):=Lib.hid (HB2.out.drew.trans hb5)
      clear o5 hb5
      refine hK _ _ (HB5.out) ?_
      clear hK K
      iterate 1
       refine wpPlan_read (by rfl) (by rfl) (fun R hR=>?_)
       apply Exists.intro
       refine⟨fun w' hS'=>?_,?_⟩
       ·obtain⟨z1,z2,z3,ew,hws⟩:=FBq.out w' hS'
        go_simp
        exact⟨rfl,rfl⟩
       go_simp
       refine hR _ ?_
       clear hR R
      refine wpPlan_nil ?_
      go_wp2_with fail
      go_roundg (l.length - (s+1+1))
      case measure=>have:=HQ2.out;omega
      case rel=>exact⟨s+1+1,rfl,by omega,by go_num,O5,HB5⟩
    ·obtain rfl:t=l.length:=by omega
     go_wp2_with fail
     go_roundg (L.length - (j+1))
     case measure=>have:=HQ.out;omega
     case rel=>exact⟨j+1,rfl,by omega,by go_num,by rw[HGE.out];exact HO2,HB2⟩
  ·obtain rfl:j=L.length:=by omega
   go_wp2_with fail
   refine bodyPost_ret (by simp[results,Tryz.results89,go_sem, *];try rfl) rfl ?_
   exact⟨_,rfl,by rw[HALL.out];exact HO.out,HB.out⟩
end
section
open Go.RowKit Go.Lib
theorem wright3_any(w:World):Calls Tryz.prog 247 #[.string ⟨#[118,118,118]⟩] w fun e w'=>e=.returned (.bool true)/\Below w.heap.size w w':=by
 have FO:=fun w=>Lib.hid (formOf_any 7 118 w vz_v)
 go_enter Tryz.func247,Tryz.ntmps247
 go_wp2_with fail
 go_loopg [11] 3 (fun q i wr=>∃j:Nat,q=3 - j/\j<=3/\i=.int .i64 j/\Below w.heap.size w wr)
 case atStart=>exact⟨0,rfl,by omega,rfl,Below.refl _ _⟩
 case round=>
  obtain⟨j,hq,hj,rfl,hb⟩:=hrel
  have HQ:=Lib.hid hq
  have hz:=hb.size
  clear hq
  rcases(show j=0\/j=1\/j=2\/j=3 by omega) with rfl|rfl|rfl|rfl
  ·go_wp2_with (go_at_call 248;refine((FO _).out).mono ?_;rintro e w1 ⟨rfl,hb1⟩;have hz1:=hb1.size)
   go_roundg 2
   case measure=>have:=HQ.out;omega
   case rel=>exact⟨1,rfl,by omega,by go_num,by(repeat' (first|(with_reducible exact Below.refl _ _)|(with_reducible refine Below.alloc ?_ ?_ _)|(with_reducible refine Below.drew ?_)|(with_reducible refine below_drewN ?_ _)|(with_reducible refine Below.setCell ?_ ?_ _)|(with_reducible refine below_of (by assumption) ?_ ?_)|go_size))⟩
  ·go_wp2_with (go_at_call 248;refine((FO _).out).mono ?_;rintro e w1 ⟨rfl,hb1⟩;have hz1:=hb1.size)
   go_roundg 1
   case measure=>have:=HQ.out;omega
   case rel=>exact⟨2,rfl,by omega,by go_num,by(repeat' (first|(with_reducible exact Below.refl _ _)|(with_reducible refine Below.alloc ?_ ?_ _)|(with_reducible refine Below.drew ?_)|(with_reducible refine below_drewN ?_ _)|(with_reducible refine Below.setCell ?_ ?_ _)|(with_reducible refine below_of (by assumption) ?_ ?_)|go_size))⟩
  ·go_wp2_with (go_at_call 248;refine((FO _).out).mono ?_;rintro e w1 ⟨rfl,hb1⟩;have hz1:=hb1.size)
   go_roundg 0
   case measure=>have:=HQ.out;omega
   case rel=>exact⟨3,rfl,by omega,by go_num,by(repeat' (first|(with_reducible exact Below.refl _ _)|(with_reducible refine Below.alloc ?_ ?_ _)|(with_reducible refine Below.drew ?_)|(with_reducible refine below_drewN ?_ _)|(with_reducible refine Below.setCell ?_ ?_ _)|(with_reducible refine below_of (by assumption) ?_ ?_)|go_size))⟩
  ·go_wp2_with fail
   go_ret
   exact⟨rfl,hb⟩
def outs(a b c:Int):Nat->List Int
 | 0=>[]
 | 1=>leb a
 | 2=>leb a++leb b
 | _=>leb a++leb b++leb c
theorem outs_len(a b c:Int)(j:Nat):(outs a b c j).length<=30:=by
 have h1:=leb_len a
 have h2:=leb_len b
 have h3:=leb_len c
 match j with
 | 0=>simp[outs]
 | 1=>simp only[outs];omega
 | 2=>simp only[outs,List.length_append];omega
 | n+3=>simp only[outs,List.length_append];omega
theorem wput3_any(a b c:Int)(v:Value)(w:World)(hr:RdI .u64 w v [a,b,c])(a0:0<=a)(a1:a<18446744073709551616)(b0:0<=b)(b1:b<18446744073709551616)(c0:0<=c)(c1:c<18446744073709551616) :
 Calls Tryz.prog 147 #[.string ⟨#[118,118,118]⟩,v] w fun e w'=>∃v,e=.returned (.tuple #[v,.int .i64 0])/\OwnB w.heap.size w' v (outs a b c 3)/\Below w.heap.size w w':=by
 obtain⟨A,cn,rfl,hn,hc,hp⟩:=hr.form
 obtain⟨gn,on,rfl,hgn,hcn⟩:=hp.at_ (j:=0) (by simp)
 obtain⟨g',o',e',_,hcn1⟩:=hp.at_ (j:=1) (by simp)
 simp only[Option.some.injEq,Addr.mk.injEq,and_true] at e'
 obtain⟨rfl,rfl⟩:=e'
 obtain⟨g',o',e',_,hcn2⟩:=hp.at_ (j:=2) (by simp)
 simp only[Option.some.injEq,Addr.mk.injEq,and_true] at e'
 obtain⟨rfl,rfl⟩:=e'
 simp only[List.length_cons,List.length_nil,List.getElem_cons_zero,List.getElem_cons_succ,Nat.add_zero] at hn hcn hcn1 hcn2 |-
 have CN0:=Lib.hid hcn
 have CN1:=Lib.hid hcn1
 have CN2:=Lib.hid hcn2
 have FO:=fun w=>Lib.hid (formOf_any 7 118 w vz_v)
 have HF:=Lib.hid (fun(g:Nat) (n:Int) (bs:List Int) (W:World) h n0 n1 hl=>wleb_any g w.heap.size n 0 bs W h n0 n1 hl)
 have eg:∀args w,(callFunc 416 args).run Tryz.prog w=.ok (.enter 416 args) w:=fun _ _=>rfl
 have HO1:Hid (outs a b c 0++leb a=outs a b c 1):=Lib.hid rfl
 have HO2:Hid (outs a b c 1++leb b=outs a b c 2):=Lib.hid rfl
 have HO3:Hid (outs a b c 2++leb c=outs a b c 3):=Lib.hid rfl
 have HOL:=Lib.hid (outs_len a b c)
 have ef7:fPut 7=416:=rfl
 rw[ef7] at FO
 clear hr hp hcn hcn1 hcn2 ef7
 go_enter Tryz.func147,Tryz.ntmps147
 go_wp2_with fail
 refine(wright3_any w).mono ?_
 rintro e w1 ⟨rfl,hb1⟩
 have hz1:=hb1.size
 go_wp2_with fail
 obtain⟨g,hg⟩:∃g,w1.heap.size=g:=⟨_,rfl⟩
 have W0:=Lib.hid (Wr.new 332 w1 w.heap.size hz1)
 have hb2:Below w.heap.size w (w1.alloc (.cells #[.slice none 0 0] 332)):=by(repeat' (first|(with_reducible exact Below.refl _ _)|(with_reducible refine Below.alloc ?_ ?_ _)|(with_reducible refine Below.drew ?_)|(with_reducible refine below_drewN ?_ _)|(with_reducible refine Below.setCell ?_ ?_ _)|(with_reducible refine below_of (by assumption) ?_ ?_)|go_size))
 rw[hg] at W0 |-
 generalize w1.alloc (.cells #[.slice none 0 0] 332)=w2 at *
 clear hg
 go_loopg [25] 3 (fun q i wr=>∃j:Nat,q=3 - j/\j<=3/\i=.int .i64 j/\Hid (Wr 332 w.heap.size wr g (outs a b c j))/\Below w.heap.size w wr)
 case atStart=>exact⟨0,rfl,by omega,rfl,W0,hb2⟩
 case round=>
  obtain⟨j,hq,hj,rfl,hw,hb⟩:=hrel
  have HQ:=Lib.hid hq
  have hz:=hb.size
  clear hq
  rcases(show j=0\/j=1\/j=2\/j=3 by omega) with rfl|rfl|rfl|rfl
  ·have cn':=(hb.cell (p:=⟨gn,on,none⟩) hgn).trans CN0.out
   go_wp2_with (first
    | (go_at_call 248;refine((FO _).out).mono ?_;rintro e w3 ⟨rfl,hb3⟩;have hz3:=hb3.size)
    | (go_at_fn 416;refine((HF.out g a (outs a b c 0) _ ((hw.out.keep hb3).keep ((Below.refl _ _).alloc (Nat.le_refl _) _)) a0 a1 (by have:=HOL.out 0;omega)).mono ?_);rintro e w4 ⟨rfl,k1,k2⟩;have hz4:=k2.size;rw[HO1.out] at k1;have K1:=Lib.hid k1;clear k1))
   go_roundg 2
   case measure=>have:=HQ.out;omega
   case rel=>exact⟨1,rfl,by omega,by go_num,K1,by(repeat' (first|(with_reducible exact Below.refl _ _)|(with_reducible refine Below.alloc ?_ ?_ _)|(with_reducible refine Below.drew ?_)|(with_reducible refine below_drewN ?_ _)|(with_reducible refine Below.setCell ?_ ?_ _)|(with_reducible refine below_of (by assumption) ?_ ?_)|go_size))⟩
  ·have cn':=(hb.cell (p:=⟨gn,on+1,none⟩) hgn).trans CN1.out
   go_wp2_with (first
    | (go_at_call 248;refine((FO _).out).mono ?_;rintro e w3 ⟨rfl,hb3⟩;have hz3:=hb3.size)
    | (go_at_fn 416;refine((HF.out g b (outs a b c 1) _ ((hw.out.keep hb3).keep ((Below.refl _ _).alloc (Nat.le_refl _) _)) b0 b1 (by have:=HOL.out 1;omega)).mono ?_);rintro e w4 ⟨rfl,k1,k2⟩;have hz4:=k2.size;rw[HO2.out] at k1;have K1:=Lib.hid k1;clear k1))
   go_roundg 1
   case measure=>have:=HQ.out;omega
   case rel=>exact⟨2,rfl,by omega,by go_num,K1,by(repeat' (first|(with_reducible exact Below.refl _ _)|(with_reducible refine Below.alloc ?_ ?_ _)|(with_reducible refine Below.drew ?_)|(with_reducible refine below_drewN ?_ _)|(with_reducible refine Below.setCell ?_ ?_ _)|(with_reducible refine below_of (by assumption) ?_ ?_)|go_size))⟩
  ·have cn':=(hb.cell (p:=⟨gn,on+2,none⟩) hgn).trans CN2.out
   go_wp2_with (first
    | (go_at_call 248;refine((FO _).out).mono ?_;rintro e w3 ⟨rfl,hb3⟩;have hz3:=hb3.size)
    | (go_at_fn 416;refine((HF.out g c (outs a b c 2) _ ((hw.out.keep hb3).keep ((Below.refl _ _).alloc (Nat.le_refl _) _)) c0 c1 (by have:=HOL.out 2;omega)).mono ?_);rintro e w4 ⟨rfl,k1,k2⟩;have hz4:=k2.size;rw[HO3.out] at k1;have K1:=Lib.hid k1;clear k1))
   go_roundg 0
   case measure=>have:=HQ.out;omega
   case rel=>exact⟨3,rfl,by omega,by go_num,K1,by(repeat' (first|(with_reducible exact Below.refl _ _)|(with_reducible refine Below.alloc ?_ ?_ _)|(with_reducible refine Below.drew ?_)|(with_reducible refine below_drewN ?_ _)|(with_reducible refine Below.setCell ?_ ?_ _)|(with_reducible refine below_of (by assumption) ?_ ?_)|go_size))⟩
  ·obtain⟨hbg,v,hB,hO⟩:=hw.out
   have c0:=hB.cell 0
   simp only[List.getElem?_toArray,List.getElem?_cons_zero] at c0
   have HO:=Lib.hid hO
   clear hB hO
   go_wp2_with fail
   go_ret2
   exact⟨v,rfl,HO.out,hb⟩
theorem pput_any(pat:Value)(out:List Int)(base:Nat)(vb vn:Value)(bs:List Int)(w:World)(hb0:base<=w.heap.size)(hO:OwnB base w vb bs)(hl:bs.length<=1000000000000)(hout:out.length<=1000)
 (hp:Calls Tryz.prog 147 #[pat,vn] w fun e w'=>∃v,e=.returned (.tuple #[v,.int .i64 0])/\OwnB w.heap.size w' v out/\Below w.heap.size w w') :
 Calls Tryz.prog 158 #[vb,pat,vn] w fun e w'=>∃v,e=.returned v/\OwnB base w' v (bs++out)/\Below base w w':=by
 have HO:=Lib.hid hO
 have C1:=Lib.hid hp
 clear hO hp
 go_enter Tryz.func158,Tryz.ntmps158
 go_wp2_with fail
 refine(C1.out).mono ?_
 rintro e w1 ⟨v1,rfl,o1,hb1⟩
 have O1:=Lib.hid o1
 have hz1:=hb1.size
 clear o1
 go_wp2_with (first
  | (at_builtin
     go_must (refine append_B rfl (.tmp 15) (.tmp 16) rfl base vb bs rfl (OwnI.keep HO.out hb1) v1 out rfl (OwnI.rd O1.out) (by omega) (by omega) ?_)
     intro v2 w2 o2 g2 a2
     have hb2:Below base w w2:=(hb1.mono hb0).grown g2 (by omega) (fun k hk=>(OwnI.lt HO.out k hk).1)
     have O2:=Lib.hid o2
     clear o2 g2 a2))
 go_ret
 exact⟨v2,rfl,O2.out,hb2⟩
theorem pputv_any(n:Int)(base:Nat)(vb vn:Value)(bs:List Int)(w:World)(hb0:base<=w.heap.size)(hO:OwnB base w vb bs)(hl:bs.length<=1000000000000)(hr:RdI .u64 w vn [n])(n0:0<=n)(n1:n<18446744073709551616) :
 Calls Tryz.prog 158 #[vb,.string ⟨#[118]⟩,vn] w fun e w'=>∃v,e=.returned v/\OwnB base w' v (bs++leb n)/\Below base w w':=
 pput_any _ (leb n) base vb vn bs w hb0 hO hl (by have:=leb_len n;omega) (putv_any n vn w hr n0 n1)
theorem pputz_any(x:Int)(base:Nat)(vb vn:Value)(bs:List Int)(w:World)(hb0:base<=w.heap.size)(hO:OwnB base w vb bs)(hl:bs.length<=1000000000000)(hr:RdI .u64 w vn [ub x])(h0:-9223372036854775808<=x)(h1:x<=9223372036854775807) :
 Calls Tryz.prog 158 #[vb,.string ⟨#[122]⟩,vn] w fun e w'=>∃v,e=.returned v/\OwnB base w' v (bs++zg x)/\Below base w w':=
 pput_any _ (zg x) base vb vn bs w hb0 hO hl (by have:=leb_len (sgn x);unfold zg;omega) (putz_any x vn w hr h0 h1)
theorem pput3_any(a b c:Int)(base:Nat)(vb vn:Value)(bs:List Int)(w:World)(hb0:base<=w.heap.size)(hO:OwnB base w vb bs)(hl:bs.length<=1000000000000)(hr:RdI .u64 w vn [a,b,c])(a0:0<=a)(a1:a<18446744073709551616)(b0:0<=b)(b1:b<18446744073709551616)(c0:0<=c)(c1:c<18446744073709551616) :
 Calls Tryz.prog 158 #[vb,.string ⟨#[118,118,118]⟩,vn] w fun e w'=>∃v,e=.returned v/\OwnB base w' v (bs++outs a b c 3)/\Below base w w':=
 pput_any _ (outs a b c 3) base vb vn bs w hb0 hO hl (by have:=outs_len a b c 3;omega) (wput3_any a b c vn w hr a0 a1 b0 b1 c0 c1)
theorem _root_.Go.Proofs.YtkiebccnpheloaaGreat.RdI.three_at(t:TypeId)(k:IntKind)(w:World)(a b c:Int)(H:Nat)(h:w.heap.size=H):RdI k (w.alloc (.cells #[.int k a,.int k b,.int k c] t)) (.slice (some ⟨H,0,none⟩) 3 3) [a,b,c]:=by
 subst h
 have h:OwnI t k w.heap.size (w.alloc (.cells #[.int k a,.int k b,.int k c] t)) (.slice (some ⟨w.heap.size,0,none⟩) 3 3) [a,b,c]:=
  ⟨rfl,.inr ⟨w.heap.size,3,_,rfl,Nat.le_refl _,heap_alloc_new _ _,by simp,by unfold maxLen;omega,rfl,by simp⟩⟩
 exact h.rd
theorem I64L.lvl{L:LL}(h:∀x∈allV L,-9223372036854775808<=x/\x<=9223372036854775807)(j:Nat):I64L (lvl L j):=fun x hx=>by
 rcases Nat.lt_or_ge j L.length with hj|hj
 ·rw[lvl_at hj] at hx
  exact h x (List.mem_flatten.2 ⟨_,List.getElem_mem hj,hx⟩)
 ·rw[lvl_of_ge hj] at hx;simp at hx
theorem klevel_any(vb v:Value)(bs l:List Int)(w0 w:World)(hb:Below w0.heap.size w0 w)(hl:RdE i64E w0 v l)(hs:Srt l)(hbd:I64L l)(hn:l.length<=1000000000)(hO:OwnB w0.heap.size w vb bs)(hbs:bs.length<=100000000000) :
 Calls Tryz.prog 160 #[vb,v] w fun e w'=>∃v',e=.returned v'/\OwnB w0.heap.size w' v' (bs++wrL l)/\Below w0.heap.size w0 w':=by
 obtain⟨A,c,rfl,hc1,hc2,fa⟩:=hl.form
 have FA:=Lib.hid fa
 have HS:=Lib.hid hs
 have HBD:=Lib.hid hbd
 have HO:=Lib.hid hO
 have HB:=Lib.hid hb
 have hz:=hb.size
 have hbb:=leb_len (l.length:Int)
 clear hl hs hbd hO fa hb
 go_enter Tryz.func160,Tryz.ntmps160
 go_wp2_with fail
 refine(pputv_any (l.length:Int) w0.heap.size vb _ bs _ (by simp only[World.size_alloc];omega) (OwnI.alloc HO.out _) (by omega) (RdI.one_at _ _ _ _ _ rfl) (by omega) (by omega)).mono ?_
 rintro e w4 ⟨v4,rfl,o4,hb4⟩
 obtain⟨G,hG⟩:∃G,bs++leb (l.length:Int)=G:=⟨_,rfl⟩
 have hGl:G.length<=100000000010:=by rw[<-hG,List.length_append];omega
 have HGE:Hid (bs++wrL l=G++wrV none (l.take l.length)):=Lib.hid (by rw[<-hG,wrL,List.take_length];simp)
 rw[hG] at o4
 have O4:=Lib.hid o4
 have HB4:Hid (Below w0.heap.size w0 w4):=Lib.hid ((HB.out.alloc (by omega) _).trans hb4)
 clear o4 hb4 hG hbb
 go_wp2_with fail
 go_loopg [0,5,6,15] l.length (fun q v _ _ i wr=>∃t:Nat,q=l.length - t/\t<=l.length/\i=.int .i64 (t:Int)/\Hid (OwnB w0.heap.size wr v (G++wrV none (l.take t)))/\Hid (Below w0.heap.size w0 wr))
 case atStart=>exact⟨0,by omega,by omega,rfl,Lib.hid (by simpa[wrV] using O4.out),HB4⟩
 case round=>
  obtain⟨t,hq2,ht,rfl,HO2,HB2⟩:=hrel
  have HQ2:=Lib.hid hq2
  clear hq2
  have hzw:=HB2.out.size
  by_cases htl2:t<l.length
  ·obtain⟨ga,oa,eA,hga,ka⟩:=FA.out.i64 htl2
   subst eA
   have hx:=HBD.out l[t] (List.getElem_mem htl2)
   have hgt:(G++wrV none (l.take t)).length<=1000000000000:=by
    have:=wrV_len none (l.take t)
    have h2:(l.take t).length<=l.length:=by rw[List.length_take];omega
    rw[List.length_append];omega
   have hti:(t:Int)<(l.length:Int):=by omega
   have k1:=(HB2.out.cell (p:=⟨ga,oa+t,none⟩) hga).trans ka
   rcases Nat.eq_zero_or_pos t with rfl|ht0
   ·have HTK:=Lib.hid (wrV_take0 htl2)
    obtain⟨x,hxx⟩:∃x,l[0]=x:=⟨_,rfl⟩
    simp only[hxx,Nat.add_zero] at k1 hx HTK
    have z0:((0:Nat):Int)=0:=rfl
    rw[z0]
    clear hxx ka z0
    go_wp2_with fail
    refine(pputz_any x w0.heap.size u0 _ (G++wrV none (l.take 0)) _ (by simp only[World.size_alloc];omega) (OwnI.alloc HO2.out _) (by omega) (by rw[<-show IntKind.u64.wrap x=ub x from u64w x];exact RdI.one_at _ _ _ _ _ rfl) hx.1 hx.2).mono ?_
    rintro e w5 ⟨v5,rfl,o5,hb5⟩
    have O5:Hid (OwnB w0.heap.size w5 v5 (G++wrV none (l.take 1))):=Lib.hid (by rw[HTK.out,<-List.append_assoc];exact o5)
    have HB5:Hid (Below w0.heap.size w0 w5):=Lib.hid ((HB2.out.alloc (by omega) _).trans hb5)
    clear o5 hb5
    go_wp2_with fail
    go_roundg (l.length - (0+1))
    case measure=>have:=HQ2.out;omega
    case rel=>exact⟨1,rfl,by omega,by go_num,O5,HB5⟩
   ·obtain⟨s,rfl⟩:∃s,t=s+1:=⟨t - 1,by omega⟩
    have hsl:s<l.length:=by omega
    have HTK:=Lib.hid (wrV_take htl2)
    obtain⟨ga',oa',eA,_,kb⟩:=FA.out.i64 hsl
    injection eA with eA
    injection eA with eA1 eA2
    subst eA1;subst eA2
    have hle:=srt_next HS.out htl2
    have hy:=HBD.out l[s] (List.getElem_mem hsl)
    have k2:=(HB2.out.cell (p:=⟨ga,oa+s,none⟩) hga).trans kb
    obtain⟨x,hxx⟩:∃x,l[s+1]=x:=⟨_,rfl⟩
    obtain⟨y,hyy⟩:∃y,l[s]=y:=⟨_,rfl⟩
    simp only[hxx,hyy] at k1 k2 HTK hx hy hle
    have EW:=Lib.hid (show IntKind.u64.wrap (IntKind.u64.wrap x - IntKind.u64.wrap y)=x - y by simp only[u64w];omega)
    have hs1:((s+1:Nat):Int) - 1=(s:Int):=by omega
    have hst:(s:Int)<(l.length:Int):=by omega
    have ht0':((s+1:Nat):Int)≠0:=by omega
    have hws:IntKind.i64.wrap (s:Int)=(s:Int):=IntWalk.i64_in _ (by omega)
    clear hxx hyy ka kb
    go_wp2_with fail
    rw[EW.out]
    refine(pputv_any (x - y) w0.heap.size u0 _ (G++wrV none (l.take (s+1))) _ (by simp only[World.size_alloc];omega) (OwnI.alloc HO2.out _) (by omega) (RdI.one_at _ _ _ _ _ rfl) (by omega) (by omega)).mono ?_
    rintro e w5 ⟨v5,rfl,o5,hb5⟩
    have O5:Hid (OwnB w0.heap.size w5 v5 (G++wrV none (l.take (s+1+1)))):=Lib.hid (by rw[HTK.out,<-List.append_assoc];exact o5)
    have HB5:Hid (Below w0.heap.size w0 w5):=Lib.hid ((HB2.out.alloc (by omega) _).trans hb5)
    clear o5 hb5 hws
    go_wp2_with fail
    go_roundg (l.length - (s+1+1))
    case measure=>have:=HQ2.out;omega
    case rel=>exact⟨s+1+1,rfl,by omega,by go_num,O5,HB5⟩
  ·obtain rfl:t=l.length:=by omega
   go_wp2_with fail
   refine bodyPost_ret (by simp[results,Tryz.results160,go_sem, *];try rfl) rfl ?_
   exact⟨_,rfl,by rw[HGE.out];exact HO2.out,HB2.out⟩
theorem wrK_outs(k:Int)(L:LL)(led:Nat):wrK k L led=outs k led L.length 3++wrLs (L.take L.length):=by
 unfold wrK outs
 rw[List.take_length];simp
theorem LLO.rdAt{base:Nat}{w:World}{A:Option Addr}{n c:Nat}{vs:List Sv}{L:LL}(h:LLO base w (.slice A n c) vs L){j:Nat}(hj:j<L.length) :
 ∃gl off sA sc,A=some ⟨gl,off,none⟩/\gl<w.heap.size/\w.cell? ⟨gl,off+j,none⟩=some (.slice sA (lvl L j).length sc)/\RdE i64E w (.slice sA (lvl L j).length sc) (lvl L j):=h.llr.at_ hj
theorem kwrite_any{F:Nat->Prop}{g k n led a:Nat}{lv:Value}{vs:List Sv}{L:LL}(w:World)(hs:Kst F w g k n led lv vs L)(hok:PkOk (L,led,a))(hbd:∀j,I64L (lvl L j))(hk:k<=1000000) :
 Calls Tryz.prog 67 #[.pointer (some ⟨g,0,none⟩)] w fun e w'=>∃v,e=.returned (.tuple #[v,.int .i64 0])/\OwnB w.heap.size w' v (wrK k L led)/\Below w.heap.size w w':=by
 have hlenL:=hok.lenL
 have hcnt:=hok.cntL
 have hled:led<=4611686018427387904:=hok.led
 have HLV:=Lib.hid (levels_any w hs (by omega) (by omega))
 have HS:=Lib.hid (fun W (hb:Below w.heap.size w W)=>hs.keep hb)
 have HSR:=Lib.hid (fun j=>(hok.srt j:Srt (lvl L j)))
 have HBD:=Lib.hid hbd
 have HTL:=Lib.hid (fun j=>wrLs_take_len L j)
 have HLC:=Lib.hid (fun j=>lvl_le_cnt L j)
 have HALL:=Lib.hid (wrK_outs k L led)
 have hol:=outs_len k led L.length 3
 clear hs hok hbd
 go_enter Tryz.func67,Tryz.ntmps67
 go_wp2_with fail
 refine(HLV.out).mono ?_
 rintro e w1 ⟨v1,vs1,rfl,hlo,hb1⟩
 obtain⟨A1,c1,ev,hc1,hc2⟩:=hlo.llr.form
 subst ev
 have HLO:=Lib.hid hlo
 have HB1:=Lib.hid hb1
 have HS1:=Lib.hid (HS.out w1 hb1)
 have hz1:=hb1.size
 clear hlo hb1 HLV HS
 go_wp2_with fail
 refine(size_any w1 HS1.out).mono ?_
 rintro e w2 ⟨rfl,hw2⟩
 subst hw2
 go_wp2_with fail
 refine(ledger_any w1 HS1.out).mono ?_
 rintro e w2 ⟨rfl,hw2⟩
 subst hw2
 go_wp2_with fail
 refine(pput3_any k led L.length w1.heap.size _ _ [] _ (by simp) (OwnI.nil_ _ _ _ _) (by simp) (RdI.three_at _ _ _ _ _ _ _ rfl) (by omega) (by omega) (by omega) (by omega) (by omega) (by omega)).mono ?_
 rintro e w3 ⟨v3,rfl,o3,hb3⟩
 obtain⟨H,hH⟩:∃H,outs (k:Int) led L.length 3=H:=⟨_,rfl⟩
 rw[List.nil_append,hH] at o3
 rw[hH] at HALL hol
 have O3:=Lib.hid o3
 have HB3:Hid (Below w1.heap.size w1 w3):=Lib.hid (((Below.refl _ _).alloc (by omega) _).trans hb3)
 clear o3 hb3 hH
 go_wp2_with fail
 go_loopg [5,7,24] L.length (fun q v _ i wr=>∃j:Nat,q=L.length - j/\j<=L.length/\i=.int .i64 (j:Int)/\Hid (OwnB w1.heap.size wr v (H++wrLs (L.take j)))/\Hid (Below w1.heap.size w1 wr))
 case atStart=>exact⟨0,by omega,by omega,rfl,Lib.hid (by simpa[wrLs] using O3.out),HB3⟩
 case round=>
  obtain⟨j,hq,hj,rfl,HO,HB⟩:=hrel
  have HQ:=Lib.hid hq
  clear hq
  have hz:=HB.out.size
  have htl:=HTL.out j
  by_cases hjl:j<L.length
  ·obtain⟨gl,off,sA,sc,eA,hgl,ca,ra⟩:=HLO.out.rdAt hjl
   subst eA
   have HT:=Lib.hid (wrLs_take hjl)
   have hlc:=HLC.out j
   have k1:=(HB.out.cell (p:=⟨gl,off+j,none⟩) hgl).trans ca
   have HKL:=Lib.hid (klevel_any u5 _ (H++wrLs (L.take j)) (lvl L j) w1 wr HB.out ra (HSR.out j) (HBD.out j) (by omega) HO.out (by rw[List.length_append];omega))
   rw[List.append_assoc,<-HT.out] at HKL
   have hji:(j:Int)<(L.length:Int):=by omega
   clear ra ca
   go_wp2_with fail
   refine(HKL.out).mono ?_
   rintro e w4 ⟨v4,rfl,o4,hb4⟩
   have O4:=Lib.hid o4
   have HB4:=Lib.hid hb4
   clear o4 hb4
   go_wp2_with fail
   go_roundg (L.length - (j+1))
   case measure=>have:=HQ.out;omega
   case rel=>exact⟨j+1,rfl,by omega,by go_num,O4,HB4⟩
  ·obtain rfl:j=L.length:=by omega
   go_wp2_with fail
   refine bodyPost_ret (by simp[results,Tryz.results67,go_sem, *];try rfl) rfl ?_
   exact⟨_,rfl,by rw[HALL.out];exact OwnI.lift HO.out (fun k e=>Nat.le_trans hz1 (OwnI.lt HO.out k e).1),HB1.out.trans (HB.out.mono hz1)⟩
end
end Go.Proofs.YtkiebccnpheloaaGreat.K
