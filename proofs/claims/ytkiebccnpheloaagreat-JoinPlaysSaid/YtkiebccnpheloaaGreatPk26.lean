/- Parts of a proof: what its theorem reaches, words cut short. No condition of its own. -/
import Derived.Test.YtkiebccnpheloaaGreatPk25
set_option maxRecDepth 100000
set_option maxHeartbeats 16000000
set_option linter.unusedVariables false
set_option linter.unusedSimpArgs false
namespace Go.Proofs.YtkiebccnpheloaaGreat.D
def nn(v:Int):List Int:=lC 8 (vg v)
theorem DF(v:Int):1<=(nn v).length/\(nn v).length<=9:=BI 8 _
def qy(g:Int):List Int:=if g=1 then [0] else if 1<g then [-g] else []
def Fg:Int->List Pr->List Int
 | _,[]=>[]
 | a,p::l=>qy (p.1 - a)++p.2::Fg (p.1+1) l
def nmA(l:List Pr):List Int:=if l=[] then [0] else Fg 0 l
def uT(l:List Int):List Int:=l.flatMap nn
def rU(l:List Pr):List Int:=uT (nmA l)
def iZ:Nat->Int->List Int
 | 0,_=>[]
 | k+1,n=>iZ k (n / 256)++[n % 256]
theorem gK:∀(k:Nat) (n:Int),(iZ k n).length=k
 | 0,_=>rfl
 | k+1,n=>by rw[iZ,aI,gK k];rfl
def XA(lo reach dg c:Int):List Int:=iZ 4 478450451++iZ 4 c++iZ 4 0++iZ 4 dg++iZ 8 lo++iZ 8 reach++iZ 8 4607182418800017408
def hwB(lo reach dg:Int)(l:List Pr):List Int:=XA lo reach dg (rU l).length++rU l
def uU(a:Int):List Pr->Int
 | []=>a
 | p::l=>uU (p.1+1) l
theorem KJ(g:Int):(qy g).length<=1:=by unfold qy;(repeat' split)<;>simp
theorem AX:∀(l:List Pr) (a:Int),(Fg a l).length<=2 * l.length
 | [],_=>by simp[Fg]
 | p::l,a=>by
  have h1:=KJ (p.1 - a);have h2:=AX l (p.1+1);rw[Fg,aI,aP,aP];omega
theorem ac8(l:List Pr):(nmA l).length<=2 * l.length+1:=by
 unfold nmA;split
 ·simp
 ·have:=AX l 0;omega
theorem xP:∀(l:List Int),l.length<=(uT l).length/\(uT l).length<=9 * l.length
 | []=>by simp[uT]
 | n::l=>by
  have h1:=DF n;have h2:=xP l;have e:uT (n::l)=nn n++uT l:=rfl;rw[e,aI,aP];omega
theorem ru(a b:List Int):uT (a++b)=uT a++uT b:=List.flatMap_append
theorem xQ(l:List Pr):1<=(rU l).length/\(rU l).length<=18 * l.length+9:=by
 have h1:=ac8 l;have h2:=xP (nmA l);have h3:1<=(nmA l).length:=by
  unfold nmA;split
  ·simp
  ·rename_i h
   cases l with
   | nil=>exact absurd rfl h
   | cons p l=>rw[Fg,aI,aP];omega
 unfold rU;omega
theorem Q7(lo reach dg:Int)(l:List Pr):(hwB lo reach dg l).length=40+(rU l).length:=by unfold hwB XA;simp only[aI,gK]
section
open Go.Lib
variable {lo hi dg u m bk : Nat} {gr : Bool} {l : List Pr}
theorem jo.pb(h:jo lo hi dg u m gr bk l):∀p∈l,0<=p.1/\p.1<=16777216/\0<p.2/\p.2<=4611686018427387904:=fun p hp=>by
 have h1:=h.kb p hp;have h2:=h.pos p hp;have h3:=pR h.pos p hp;have:=h.sum;omega
end
open Go.RowKit Go.Lib
structure FL(k:Nat)(c sz:Int):Prop where
 e:c=qi k
 lt:k<10
 no:∀j,j<k->(qi j == c)=false
 yes:(qi k == c)=true
 siz:NM k=sz
theorem Gu(k:Nat)(c sz:Int)(h:(decide (k<10) && decide (c=qi k) && decide (NM k=sz) && (List.range k).all (fun j=>!(qi j == c)))=true):FL k c sz:=by
 simp only[Bool.and_eq_true,decide_eq_true_eq,List.all_eq_true,List.mem_range] at h;obtain⟨⟨⟨h1,h2⟩,h3⟩,h4⟩:=h;exact⟨h2,h1,fun j hj=>by have:=h4 j hj;simpa using this,by rw[h2];simp,h3⟩
theorem XB:FL 0 98 1:=Gu 0 98 1 af
theorem aw4:FL 4 87 4:=Gu 4 87 4 af
theorem aw5:FL 6 81 8:=Gu 6 81 8 af
theorem ac9:FL 7 118 0:=Gu 7 118 0 af
theorem bf9:VZ 9 110:=by
 have h:=Gu 9 110 0 af
 exact⟨h.e,h.lt,h.no,h.yes,h.siz⟩
theorem fF(k:Nat)(c sz:Int)(w:World)(h:FL k c sz) :
 Calls Tryz.prog 248 #[.int .u8 c] w fun e w'=>e=.returned (.tuple #[.agg #[.int .u8 c,.int .i64 sz,.func (.func (oO k)) #[] #[],.func (.func (yH k)) #[] #[]],.bool true])/\Below w.heap.size w w':=by
 have H:=aB h;have hk:=h.lt;have hk1:(k:Int)<10:=ae
 clear h
 go_enter Tryz.func248,Tryz.ntmps248
 go_wp2_with fail;refine(FP _).mono ?_
 rintro e w1 ⟨rfl,hb1⟩;have hz1:=hb1.size;simp only[aO] at hz1;have CB:Hid (w1.cell? ⟨w.heap.size,0,none⟩=some (.int .u8 c)):=by
  refine(hb1.cell (p:=⟨w.heap.size,0,none⟩) (by show w.heap.size<_;simp only[aO];omega)).trans ?_
  refine(((aH (w.alloc (.cells #[.int .u8 c] 5)).heap.size (w.alloc (.cells #[.int .u8 c] 5))).alloc (aK _) _).cell (p:=⟨w.heap.size,0,none⟩) (by show w.heap.size<_;simp only[aO];omega)).trans ?_
  simp[World.cell?_alloc_new]
 have hlt0:w.heap.size<w1.heap.size:=ae
 have HT:Hid (dH w1 (w.heap.size+1) 336 #[.int .u8 0,.int .i64 0,Value.nilFunc,Value.nilFunc]):=by
  have h:=(dH.new (w.alloc (.cells #[.int .u8 c] 5)) 336 #[.int .u8 0,.int .i64 0,Value.nilFunc,Value.nilFunc]).keep hb1
  rwa [aO] at h
 go_wp2_with (refine wpList_store_row rfl 443 (.tmp 4) (.tmp 6) rfl w1.heap.size je rfl rfl 443 _ (heap_alloc_new _ _) (by as_aux_lemma=>kernel_rfl) (by as_aux_lemma=>kernel_rfl) (by as_aux_lemma=>kernel_rfl) ?_)
 have BG:=setRow_heap _ _ _ je _ _ (heap_alloc_new w1 (Obj.cells
  #[Value.int IntKind.u8 0,Value.int IntKind.i64 0,Value.nilFunc,Value.nilFunc,Value.int IntKind.u8 0,
   Value.int IntKind.i64 0,Value.nilFunc,Value.nilFunc,Value.int IntKind.u8 0,Value.int IntKind.i64 0,
   Value.nilFunc,Value.nilFunc,Value.int IntKind.u8 0,Value.int IntKind.i64 0,Value.nilFunc,
   Value.nilFunc,Value.int IntKind.u8 0,Value.int IntKind.i64 0,Value.nilFunc,Value.nilFunc,
   Value.int IntKind.u8 0,Value.int IntKind.i64 0,Value.nilFunc,Value.nilFunc,Value.int IntKind.u8 0,
   Value.int IntKind.i64 0,Value.nilFunc,Value.nilFunc,Value.int IntKind.u8 0,Value.int IntKind.i64 0,
   Value.nilFunc,Value.nilFunc,Value.int IntKind.u8 0,Value.int IntKind.i64 0,Value.nilFunc,
   Value.nilFunc,Value.int IntKind.u8 0,Value.int IntKind.i64 0,Value.nilFunc,Value.nilFunc]
  443))
 have hb2:=below_setRow ((aH w1.heap.size w1).alloc (aK _) (Obj.cells
  #[Value.int IntKind.u8 0,Value.int IntKind.i64 0,Value.nilFunc,Value.nilFunc,Value.int IntKind.u8 0,
   Value.int IntKind.i64 0,Value.nilFunc,Value.nilFunc,Value.int IntKind.u8 0,Value.int IntKind.i64 0,
   Value.nilFunc,Value.nilFunc,Value.int IntKind.u8 0,Value.int IntKind.i64 0,Value.nilFunc,
   Value.nilFunc,Value.int IntKind.u8 0,Value.int IntKind.i64 0,Value.nilFunc,Value.nilFunc,
   Value.int IntKind.u8 0,Value.int IntKind.i64 0,Value.nilFunc,Value.nilFunc,Value.int IntKind.u8 0,
   Value.int IntKind.i64 0,Value.nilFunc,Value.nilFunc,Value.int IntKind.u8 0,Value.int IntKind.i64 0,
   Value.nilFunc,Value.nilFunc,Value.int IntKind.u8 0,Value.int IntKind.i64 0,Value.nilFunc,
   Value.nilFunc,Value.int IntKind.u8 0,Value.int IntKind.i64 0,Value.nilFunc,Value.nilFunc]
  443)) (aK w1.heap.size) je
 generalize (w1.alloc (Obj.cells
  #[Value.int IntKind.u8 0,Value.int IntKind.i64 0,Value.nilFunc,Value.nilFunc,Value.int IntKind.u8 0,
   Value.int IntKind.i64 0,Value.nilFunc,Value.nilFunc,Value.int IntKind.u8 0,Value.int IntKind.i64 0,
   Value.nilFunc,Value.nilFunc,Value.int IntKind.u8 0,Value.int IntKind.i64 0,Value.nilFunc,
   Value.nilFunc,Value.int IntKind.u8 0,Value.int IntKind.i64 0,Value.nilFunc,Value.nilFunc,
   Value.int IntKind.u8 0,Value.int IntKind.i64 0,Value.nilFunc,Value.nilFunc,Value.int IntKind.u8 0,
   Value.int IntKind.i64 0,Value.nilFunc,Value.nilFunc,Value.int IntKind.u8 0,Value.int IntKind.i64 0,
   Value.nilFunc,Value.nilFunc,Value.int IntKind.u8 0,Value.int IntKind.i64 0,Value.nilFunc,
   Value.nilFunc,Value.int IntKind.u8 0,Value.int IntKind.i64 0,Value.nilFunc,Value.nilFunc]
  443)).setRow w1.heap.size je=w2 at *
 have HG:Hid (dH w2 w1.heap.size 443 je):=aB BG;have hlt2:=HG.out.lt;have hz2:=hb2.size;refine(BK k c w1.heap.size w.heap.size w2 hk HG.out ((hb2.cell (p:=⟨w.heap.size,0,none⟩) hlt0).trans CB.out) H.out.no H.out.yes).mono ?_
 rintro e w3 ⟨rfl,hb3⟩;have hz3:=hb3.size;have G3:=HG.out.keep hb3;obtain⟨x0,x1,x2,x3⟩:=yI k hk;have e0:=(G3.cell (k * 4)).trans x0;have e1:=(G3.cell (k * 4+1)).trans x1;have e2:=(G3.cell (k * 4+2)).trans x2;have e3:=(G3.cell (k * 4+3)).trans x3;unfold fnV at e2 e3;rw[<-H.out.e] at e0;rw[H.out.siz] at e1;have T3:Hid (dH w3 (w.heap.size+1) 336 #[.int .u8 0,.int .i64 0,Value.nilFunc,Value.nilFunc]):=(HT.out.below hb2 ae).below hb3 ae
 have hkn:decide ((k:Int)<0)=false:=decide_eq_false ae
 clear BG G3 x0 x1 x2 x3 CB HT HG;have hi4:(Tryz.prog.info? 336).map (·.size)=some 4:=by kernel_rfl
 obtain⟨pp,hpp⟩:∃pp,oO k=pp:=⟨_,rfl⟩;obtain⟨gg,hgg⟩:∃gg,yH k=gg:=⟨_,rfl⟩;rw[hpp] at e2;rw[hgg] at e3;have HPP:=aB hpp;have HGG:=aB hgg;clear hpp hgg
 go_wp2_with ((refine wpList_store_row rfl 336 (.tmp 2) (.tmp 15) rfl (w.heap.size+1) #[.int .u8 c,.int .i64 sz,.func (.func pp) #[] #[],.func (.func gg) #[] #[]] rfl rfl 336 _ T3.out hi4 rfl (by simp[Value.oneCell']) ?_))
 have B4:dH (w3.setRow (w.heap.size+1) #[.int .u8 c,.int .i64 sz,.func (.func pp) #[] #[],.func (.func gg) #[] #[]]) (w.heap.size+1) 336 #[.int .u8 c,.int .i64 sz,.func (.func pp) #[] #[],.func (.func gg) #[] #[]]:=setRow_heap _ _ _ _ _ _ T3.out;have hb4:Below w.heap.size w (w3.setRow (w.heap.size+1) #[.int .u8 c,.int .i64 sz,.func (.func pp) #[] #[],.func (.func gg) #[] #[]]):=by
  refine below_setRow ?_ ae _
  exact((((((aH _ _).alloc (aK _) _).alloc ag _).trans (hb1.mono (by simp only[aO];omega))).trans (hb2.mono ae)).trans (hb3.mono ae))
 generalize w3.setRow (w.heap.size+1) #[.int .u8 c,.int .i64 sz,.func (.func pp) #[] #[],.func (.func gg) #[] #[]]=w4 at *;have k0:=B4.cell 0;have k1:=B4.cell 1;have k2:=B4.cell 2;have k3:=B4.cell 3;simp only[aF,aG,aC] at k0 k1 k2 k3;clear e0 e1 e2 e3 B4
 go_wp2_with fail;refine bodyPost_ret (by simp[results,Tryz.results248,go_sem, *];try rfl) rfl ?_
 exact⟨by rw[HPP.out,HGG.out],hb4⟩
def bE:Io Int where
 k:=1
 t:=5
 enc x:=[.int .u8 x]
 len _:=rfl
 one x u hu:=by
  simp only[a_,List.not_mem_nil,or_false] at hu;subst hu;rfl
theorem bI:(Tryz.prog.info? 5).map (fun i=>(i.zero,i.size,i.bytes))=some (some (.int .u8 0),1,1):=by kernel_rfl
theorem wC:Ty Tryz.prog bE 22:=QO bI Tryz.underlying22 rfl af  af
theorem IE:∀l:List Int,cellsE bE l=l.map (Value.int .u8)
 | []=>rfl
 | x::l=>by rw[iC,IE l];rfl
theorem dR{base:Nat}{w:World}{v:Value}{l:List Int}:OwnB base w v l<->dI bE base w v l:=by
 unfold OwnB dN dI;rw[IE];rfl
theorem XC:∀(K:Nat) (n:Int) (j:Nat),j<K->(iZ K n)[j]?=some (n / 2 ^ (8 * (K - 1 - j)) % 256)
 | K+1,n,j,h=>by
  rw[iZ]
  rcases bJ j K with hj|hj
  ·rw[List.getElem?_append_left (by rw[gK];exact hj),XC K _ j hj,Int.ediv_ediv_of_nonneg ae]
   have e:(256:Int) * 2 ^ (8 * (K - 1 - j))=2 ^ (8 * (K+1 - 1 - j)):=by
    rw[show K+1 - 1 - j=K - 1 - j+1 by omega,Nat.mul_add,Int.pow_add,Int.mul_comm];rfl
   rw[e]
  ·obtain rfl:j=K:=ae
   rw[List.getElem?_append_right (by rw[gK];exact aK _),gK]
   simp
theorem lI(g base K:Nat)(n:Int)(bs:List Int)(w:World)(h:Wr 332 base w g bs)(n0:0<=n)(n1:n<18446744073709551616)(hK:K<=8)(hl:bs.length<=1000000000000) :
 Calls Tryz.prog 414 #[.pointer (some ⟨g,0,none⟩),.int .u64 n,.int .i64 K] w fun e w'=>e=.returned (.tuple #[])/\Wr 332 base w' g (bs++iZ K n)/\Below base w w':=by
 have H:=aB h;have hlt:=h.lt;clear h;have EK:Hid (IntKind.i64.wrap ((K:Int) - 1)=(K:Int) - 1):=aB ak
 have ek:=EK.out
 go_enter Tryz.func414,Tryz.ntmps414
 go_wp2_with fail
 go_loopg [6] K (fun q i wr=>∃j:Nat,q=K - j/\j<=K/\i=.int .i64 ((K:Int) - 1 - j)/\Hid (Wr 332 base wr g (bs++(iZ K n).take j))/\Below base w wr)
 case atStart=>exact⟨0,rfl,ae,ag,by rw[List.take_zero,List.append_nil];exact H,aH _ _⟩
 case round=>
  obtain⟨j,hq,hj,rfl,hw,hb⟩:=hrel;have HQ:=aB hq;have hz:=hb.size;clear hq ek
  by_cases hlj:j<K
  ·obtain⟨i,hi⟩:∃i,K - 1 - j=i:=⟨_,rfl⟩
   have hiI:(K:Int) - 1 - j=(i:Int):=ae
   rw[hiI];have hi0:(0:Int)<=(i:Int):=ae
   obtain⟨s,hs⟩:∃s,8 * i=s:=⟨_,rfl⟩;have bg0:s<64:=ae
   have ES:Hid (IntKind.i64.wrap (8 * (i:Int))=(s:Int)):=aB ak
   have EI:Hid (IntKind.i64.wrap ((i:Int) - 1)=(i:Int) - 1):=aB ak
   have hbyte:(iZ K n)[j]?=some (n / 2 ^ s % 256):=by rw[XC K n j hlj,hi,hs]
   have eb:IntKind.u8.wrap (n / 2 ^ s)=n / 2 ^ s % 256:=rfl;obtain⟨y,hy⟩:∃y,n / 2 ^ s % 256=y:=⟨_,rfl⟩;rw[hy] at hbyte eb;have Nv:Hid ((iZ K n).take (j+1)=(iZ K n).take j++[y]):=aB (by rw[List.take_add_one,hbyte];rfl)
   clear hy;obtain⟨hbg,v,hB,hO⟩:=hw.out;have HB:=aB hB;have HO:=aB hO;have hlen:(bs++(iZ K n).take j).length+1<=1099511627776:=by
    have h1:=gK K n;rw[aI,bg];omega
   clear hB hO hs hi hbyte;have hsI:(s:Int)<64:=ae
   have Bd:dH wr.drew g 332 #[v]:=HB.out.drew;generalize (iZ K n).take j=T at *;obtain⟨A0,k0,hv0,_,_,_⟩:=(dN.rd HO.out).form;obtain⟨N0,hN0⟩:∃N,(bs++T).length=N:=⟨_,rfl⟩;rw[hN0] at hv0;subst hv0;have HN0:=aB hN0;clear hN0;have HBa:Hid (dH (wr.alloc (.cells #[.int .u8 y] 5)).drew g 332 #[.slice A0 N0 k0]):=aB (HB.out.alloc _).drew;have Q9:Hid (dI bE base (wr.alloc (.cells #[.int .u8 y] 5)).drew (.slice A0 N0 k0) (bs++T)):=aB (dI.alloc (dR.1 HO.out) _).drew;have hba:Below base w (wr.alloc (.cells #[.int .u8 y] 5)).drew:=(hb.alloc ae _).drew
   go_upto_region 3 with fail;refine dJ (fun w'=>dH w' g 332 #[.slice A0 N0 k0]) 12 [(0,true),(1,true),(2,true),(3,true),(4,true),(5,true),(6,true),(7,true),(8,true),(9,true),(10,false),(11,false)] (by kernel_rfl) (by kernel_rfl) (Bd) ?_
   iterate 10
    refine dK ax  ax (fun R hR=>?_)
    apply aJ
    refine⟨fun w' hS'=>?_,?_⟩
    ·have c0:=dH.cell hS' 0
     simp only[aF,aC] at c0;have es:=ES.out
     go_simp;exact⟨rfl,rfl⟩
    go_simp;refine hR _ ?_;clear hR R
   refine d_ ax  ax (fun K hK=>?_)
   go_simp;refine hK _ _ (Bd.alloc _) ?_
   clear hK K;refine d_ ax  ax (fun K hK=>?_)
   refine apW wC (.tmp 17) (.tmp 23) rfl Q9.out rfl _ [y] rfl (dI.one (E:=bE) wr.drew y _ rfl _ rfl).rd hlen aj ?_
   intro v1 w1 o1 g1 _;have B1:=jH HBa.out Q9.out af g1
   have hb1:Below base w w1:=hba.grown g1 (by have:=hba.size;omega) (fun k hk=>(dI.lt Q9.out k hk).1)
   have P1:=aB (qm (i:=0) HBa.out Q9.out af g1 o1)
   obtain⟨A1,c1,ev1,_,_,_⟩:=o1.form;obtain⟨N1,hN1⟩:∃N,(bs++T++[y]).length=N:=⟨_,rfl⟩;rw[hN1] at ev1;subst ev1;clear hN1 o1 g1;refine hK _ _ (B1) ?_
   clear hK K;refine dQ ?_
   simp only[bD,bQ];have c0:=B1.cell 0;have f0:=B1.frozen 0;simp only[aF,aC] at c0
   go_wp2_with fail;refine dO ?_
   have ei:=EI.out
   go_wp2_with fail
   go_roundg (K - (j+1))
   case measure=>have:=HQ.out;omega
   case rel=>
    refine⟨j+1,rfl,ae,?_,?_,hb1.setCell ae _⟩
    ·congr 1;omega
    ·rw[Nv.out,<-aS]
     exact aB ⟨hbg,_,P1.out.1,dR.2 P1.out.2⟩
  ·obtain rfl:j=K:=ae
   have e1:((j:Int) - 1 - j)=-1:=ae
   rw[e1];have KN:=hw;rw[bH (by rw[gK];exact aK _)] at KN
   go_wp2_with fail;refine bodyPost_end (v:=.tuple #[]) (by simp[results,Tryz.results414,go_sem, *];try rfl) rfl ?_
   exact⟨rfl,KN.out,hb⟩
open Go.RowKit Go.Lib
theorem an5(p y:Int)(s:Nat)(p0:0<=p)(p1:p<2 ^ s)(y0:0<=y)(h:p+2 ^ s * y<18446744073709551616):bits .or .u64 p (IntKind.u64.wrap (y * 2 ^ s))=p+2 ^ s * y:=by
 obtain⟨a,rfl⟩:=Int.eq_ofNat_of_zero_le p0;obtain⟨b,rfl⟩:=Int.eq_ofNat_of_zero_le y0;have e2:((b:Int) * 2 ^ s)=((b * 2 ^ s:Nat):Int):=ag
 have e3:(a:Int)+2 ^ s * (b:Int)=((a+2 ^ s * b:Nat):Int):=ag
 have ha:a<2 ^ s:=by have:(a:Int)<((2 ^ s:Nat):Int):=by simpa using p1
                     omega
 rw[e3] at h |-;have hb:b * 2 ^ s<18446744073709551616:=by rw[cZ];omega
 rw[e2,show IntKind.u64.wrap ((b * 2 ^ s:Nat):Int)=((b * 2 ^ s:Nat):Int) from by rw[eH];omega,bits_or_u64_nat a _ ae hb]
 have h':=Nat.two_pow_add_eq_or_of_lt ha b;rw[Nat.or_comm,cZ b,<-h',Nat.add_comm]
theorem XD{bs r x:List Int}{a j:Nat}(hd:bs.drop a=x++r)(hj:j<x.length):∃h:a+j<bs.length,bs[a+j]=x[j]:=by
 have hl:=congrArg List.length hd;rw[bn,aI] at hl;have h:a+j<bs.length:=ae
 refine⟨h,?_⟩
 have e:=congrArg (fun l=>l[j]?) hd
 simp only[List.getElem?_drop,List.getElem?_append_left hj] at e;rw[aY h,aY hj] at e;exact Option.some.inj e
theorem Uk{g a:Nat}{bs r:List Int}{n:Int}(w:World)(h:dZ w g bs a)(hlen:bs.length<=1000000000000)(hd:bs.drop a=n::r)(n0:0<=n)(n1:n<256) :
 Calls Tryz.prog 413 #[.pointer (some ⟨g,0,none⟩),.int .i64 1] w (Dy w g bs (a+1) (.tuple #[.int .u64 n,.int .i64 0])):=by
 have H:=aB h;have CL:=aB (uu g bs a w h hlen);obtain⟨v,h1,h2,h3⟩:=h;obtain⟨A1,k1,rfl,_,m1,f1⟩:=(dN.rd h2).form;have c0:=h1.cell 0;have c1:=h1.cell 1;have fz:=h1.frozen 1;simp only[aF,aG,aC] at c0 c1;have F1:=aB f1;have HL:a+1<=bs.length:=by
  have hl:=congrArg List.length hd;rw[bn,aP] at hl;omega
 have HD:=aB hd;have ZI:¬((bs.length:Int) - (a:Int)<1):=ae
 have EW:Hid (IntKind.i64.wrap ((a:Int)+1)=((a+1:Nat):Int)):=aB ak
 have O0:Hid (bits .or .u64 0 n=n):=aB (by
  have:=an5 0 n 0 ae ag n0 ah
  simpa[show IntKind.u64.wrap n=n by rw[eH];omega] using this)
 have EX:Hid (IntKind.u64.wrap n=n):=aB (by rw[eH];omega)
 clear h1 h2 f1 hd
 go_enter Tryz.func413,Tryz.ntmps413
 go_wp2_with fail;refine(CL.out).mono ?_
 rintro e w' ⟨rfl,VO,rfl⟩
 go_wp2_with fail
 go_loopg [6,13] 1 (fun q p i wr=>∃(j nq:Nat),q=1 - j/\j<=1/\i=.int .i64 j/\p=.int .u64 (if j=0 then 0 else n)/\wr=w.drewN nq)
 case atStart=>exact⟨0,VO,rfl,ae,rfl,rfl,rfl⟩
 case round=>
  obtain⟨j,nq,hq,hj,rfl,rfl,rfl⟩:=hrel;have HQ:=aB hq;clear hq
  by_cases hlt:j<1
  ·obtain rfl:j=0:=ae
   rw[if_pos rfl];obtain⟨hab,hby⟩:=XD (x:=[n]) (j:=0) (r:=r) HD.out ag
   obtain⟨gb,ob,rfl,hgb,e0⟩:=F1.out.at_ hab;have hbn:bs[a+0]=n:=by rw[hby];rfl
   rw[hbn] at e0;simp only[Nat.add_zero] at e0;have ajt:((a:Int)).toNat=a:=ae
   have aj0:(0:Int)<=(a:Int):=ae
   have aj1:(a:Int)<(bs.length:Int):=ae
   have EA:=aB (IntWalk.i64_in (a:Int) ae)
   have CC:=aB (aN c0 (aN c1 e0));clear hbn hby
   go_upto_region 7 with fail;refine dD (fun w'=>w'.cell? ⟨g,0,none⟩=some (.slice (some ⟨gb,ob,none⟩) bs.length k1)/\w'.cell? ⟨g,1,none⟩=some (.int .i64 a)/\w'.cell? ⟨gb,ob+a,none⟩=some (.int .u8 n)) [(0,true),(1,true),(2,true),(3,true),(4,true),(5,true),(6,true),(7,true),(8,true),(9,true),(10,true),(11,true),(12,true),(13,true),(14,true),(15,true),(16,true),(17,true),(18,true)] (by kernel_rfl) (by kernel_rfl) (CC.out) ?_
   iterate 19
    refine dC ax  ax (fun R hR=>?_)
    apply aJ
    refine⟨fun w' hS'=>?_,?_⟩
    ·obtain⟨q0,q1,q2⟩:=hS'
     have o0:=O0.out;have ea:=EA.out;have ex:=EX.out;have e0':IntKind.i64.wrap 0=0:=rfl
     go_simp;exact⟨rfl,rfl⟩
    go_simp;refine hR _ ?_;clear hR R
   refine dF ?_
   go_wp2_with fail
   go_roundg 0
   case measure=>have:=HQ.out;omega
   case rel=>exact⟨1,nq+1,rfl,ae,ai,by have:=O0.out;have:=EX.out;simp_all,rfl⟩
  ·obtain rfl:j=1:=ae
   rw[if_neg ae]
   have ew:=EW.out
   go_wp2_with fail
   go_ret2
   exact⟨rfl,(H.out.drewN nq).put (a+1) HL,sW w nq g 1 _⟩
open Go.RowKit Go.Lib
open Go.RowKit Go.Maps
theorem an6:Tryz.prog.underlying 239=some (.map 3 53):=by kernel_rfl
theorem an7:Tryz.prog.underlying 3=some (.int .i64):=by kernel_rfl
theorem an8:Tryz.prog.underlying 53=some (.int .u64):=by kernel_rfl
theorem ad1:Keyed Tryz.prog 3:=int_keyed an7
theorem aw6(w:World):(zeroValue 53).run Tryz.prog w=.ok (.int .u64 0) w:=by kernel_rfl
def kR(w:World)(b:Nat)(l:List Pr):Prop:=∃D,w.ownsMap Tryz.prog 3 (plainElem (H:=Unit) Tryz.prog 53) b l.length D/\ZG D l
section
variable {w w' : World} {b : Nat} {l : List Pr}
theorem kR.stay(h:kR w b l)(hk:w'.heap[b]?=w.heap[b]?):kR w' b l:=by
 obtain⟨D,⟨es,clock,hb,r⟩,hD⟩:=h;exact⟨D,⟨es,clock,hk.trans hb,r⟩,hD⟩
theorem kR.lt(h:kR w b l):b<w.heap.size:=by
 obtain⟨D,h,_⟩:=h;exact h.lt
theorem kR.keep(h:kR w b l)(hb:Below w.heap.size w w'):kR w' b l:=h.stay (hb.block b h.lt)
theorem an9(w:World):kR (w.alloc (.map #[] 0)) w.heap.size []:=⟨_,World.ownsMap_made w _ _ _,am8⟩
theorem kR.ne(h:kR w b l){g:Nat}{T:TypeId}{cs:Array Value}(hB:dH w g T cs):b≠g:=by
 rintro rfl;obtain⟨D,⟨es,clock,hb,_⟩,_⟩:=h;unfold dH at hB;rw[hb] at hB;cases hB
theorem XE{n:Nat}{D:DataW Unit}(h:w.ownsMap Tryz.prog 3 (plainElem (H:=Unit) Tryz.prog 53) b n D)(hD:ZG D l):kR w b l:=by
 obtain⟨es,clock,hb,F,_,e⟩:=h;refine⟨D,⟨es,clock,hb,F,?_,e⟩,hD⟩
 have h1:=hD.sz;rw[e] at h1;rw[<-h1];show es.size<=List.length _
 rw[length_read];exact aK _
theorem XF{k:Int}(k0:-9223372036854775808<=k)(k1:k<=9223372036854775807):keyOf Tryz.prog 3 (.int .i64 k)=some (iL k):=keyOf_int_mk an7 (WalkArith.wf_i64 ⟨k0,k1⟩)
theorem kR.look(h:kR w b l){k:Int}(k0:-9223372036854775808<=k)(k1:k<=9223372036854775807):(Instr.lookup 239 (.map (some b)) (.int .i64 k) false).run Tryz.prog w=.ok (.int .u64 (kC l k)) w:=by
 obtain⟨D,h,hD⟩:=h;obtain⟨c,hr,hat,_⟩:=h.lookup_int ad1 an6 an8 (aw6 w) (XF k0 k1);rw[hD.get k] at hat
 cases hat
 exact hr
theorem kR.upd(h:kR w b l)(s:iD l)(hp:gQ l)(hl:l.length<=1000000000){k n:Int}(k0:-9223372036854775808<=k)(k1:k<=9223372036854775807)(n0:0<n)(n1:kC l k+n<=18446744073709551615) :
 ∃w',(Instr.mapUpdate 239 (.map (some b)) (.int .i64 k) (.int .u64 (kC l k+n))).run Tryz.prog w=.ok () w'/\kR w' b (eQ k n l)/\w.grownBy w' (some b):=by
 obtain⟨D,h,hD⟩:=h;have hc:=iY (k:=k) hp;obtain⟨w',h1,h2,h3⟩:=h.update ad1 an6 (by unfold maxLen;omega) (XF k0 k1) (plainElem_int an8 (WalkArith.wf_u64 ⟨by omega,n1⟩))
 exact⟨w',h1,XE h2 (hD.put s hp k n n0),h3⟩
theorem Gv{F:Ft}(hF:F b)(hg:w.grownBy w' (some b)):Touch F w w':=⟨hg.os,hg.tape,hg.output,hg.size,fun k hk hn=>hg.block k hk (fun e=>by cases e;exact hn hF)⟩
theorem upL{ops:Array Oper}{rest:List Oper}{o:Oper}{a:Act}{Q:Exit->Act->World->Prop}(hgd:o.guard=none)(m x v:Operand)(hop:o.op=Op.mapUpdate 239 m x v)
 (h:kR w b l) (s:iD l) (hp:gQ l) (hl:l.length<=1000000000) {k n:Int} (k0:-9223372036854775808<=k) (k1:k<=9223372036854775807) (n0:0<n) (n1:kC l k+n<=18446744073709551615)
 (hm:a.eval m=.map (some b)) (hx:a.eval x=.int .i64 k) (hv:a.eval v=.int .u64 (kC l k+n))
 (hK:∀w',kR w' b (eQ k n l)->w.grownBy w' (some b)->wpList Tryz.prog ops Q rest (a.put o.dst undef) w'):wpList Tryz.prog ops Q (o::rest) a w:=by
 refine wpList_plain hgd fun K' hK'=>?_
 obtain⟨w',hrun,r1,r2⟩:=h.upd s hp hl k0 k1 n0 n1;unfold Oper.wp;simp[execOp,hop,hm,hx,hv,hrun,Result.andThen]
 exact hK' _ _ (hK w' r1 r2)
end
open Go.RowKit Go.Lib Go.Shelf
section
variable {g u m : Nat} {lo hi dg : Int} {w : World}
theorem KO(n:Nat)(h:rQ w g lo hi dg u m)(hu:u+m<=62)(n0:1<=n)(n1:n<=64):Calls Tryz.prog 313 #[.pointer (some ⟨g,0,none⟩),.int .i64 n] w fun e w'=>e=.returned (.int .i64 (qp u m n))/\Below w.heap.size w w':=by
 have HT:Hid (qp u m n=if 63<=n - 1+u+m then 9223372036854775807 else 2 ^ (n - 1+u+m) - 1):=aB rfl
 rw[HT.out];obtain⟨k,rfl⟩:∃k,n=k+1:=⟨n - 1,ae⟩
 simp only[Nat.add_sub_cancel] at HT |-;obtain⟨t,ht⟩:∃t,k+u=t:=⟨_,rfl⟩;obtain⟨s,hs⟩:∃s,k+u+m=s:=⟨_,rfl⟩;have e1:IntKind.i64.wrap ((k:Int)+(u:Int))=(t:Int):=ak
 have e2:IntKind.i64.wrap ((t:Int)+(m:Int))=(s:Int):=ak
 have ek:IntKind.i64.wrap (k:Int)=(k:Int):=ak
 have em:max ((k:Int)+1) 1=(k:Int)+1:=ae
 have em2:min ((k:Int)+1) 64=(k:Int)+1:=ae
 rw[hs];have k3:=dH.cell h 3;have k4:=dH.cell h 4;simp only[aF,aC,aG] at k3 k4
 by_cases h63:63<=s
 ·have hge:(63:Int)<=(s:Int):=ae
  rw[if_pos h63];clear HT ht hs h
  go_enter Tryz.func313,Tryz.ntmps313
  go_upto_region 2 with fail
  go_quiet (fail)
  go_wp2_with fail
  go_ret;exact⟨by simp,below_drewN (aH _ _) _⟩
 ·have hge:¬(63:Int)<=(s:Int):=ae
  rw[if_neg h63];have hp:2 ^ s<=4611686018427387904:=(pV ae :2 ^ s<=2 ^ 62)
  have h0:=Nat.two_pow_pos s;have hp':=hp;obtain⟨P,hP⟩:∃P,2 ^ s=P:=⟨_,rfl⟩;have hPI:((2:Int) ^ s)=(P:Int):=by rw[<-hP];simp
  rw[hP] at h0 hp' |-;have eP1:IntKind.i64.wrap ((P:Int) - 1)=(P:Int) - 1:=ak
  have Ue:(((P - 1:Nat)):Int)=(P:Int) - 1:=ae
  have eP:wrap64 (P:Int)=(P:Int):=by clear e1 e2 ek em em2 eP1 Ue hge;unfold wrap64;omega
  rw[Ue];clear HT ht hs hp Ue hP
  go_enter Tryz.func313,Tryz.ntmps313
  go_upto_region 2 with fail
  go_quiet (fail)
  obtain⟨w2,hw2⟩:∃x,w.drewN nq=x:=⟨_,rfl⟩;have B2:Below w.heap.size w w2:=by rw[<-hw2];exact below_drewN (aH _ _) _
  have k3':w2.cell? ⟨g,3,none⟩=some (.int .i64 u):=by rw[<-hw2];exact k3
  have k4':w2.cell? ⟨g,4,none⟩=some (.int .i64 m):=by rw[<-hw2];exact k4
  rw[hw2];clear hw2 k3 k4;have k3:=k3';have k4:=k4';have hg2:g<w2.heap.size:=by have:=dH.lt h;have:=B2.size;omega
  clear k3 k4;have HI:=aB (aN hPI (aN eP eP1));clear hPI eP eP1
  go_upto_region 4 with fail;refine dD (Below w2.heap.size w2) [(0,true),(1,true),(2,true),(3,true),(4,true),(5,true),(6,true),(7,true),(8,true),(9,true),(10,true),(11,true),(12,true),(13,true),(14,true)] (by kernel_rfl) (by kernel_rfl) ((aH _ _).drew) ?_
  iterate 15
   refine dC ax  ax (fun R hR=>?_)
   apply aJ
   refine⟨fun w' hS'=>?_,?_⟩
   ·have k3:=(hS'.cell (p:=⟨g,3,none⟩) hg2).trans k3'
    have k4:=(hS'.cell (p:=⟨g,4,none⟩) hg2).trans k4';obtain⟨i1,i2,i3⟩:=HI.out
    go_simp;exact⟨rfl,rfl⟩
   go_simp;refine hR _ ?_;clear hR R
  refine dF ?_
  go_wp2_with fail
  go_ret;have i0:IntKind.i64.wrap (P:Int)=(P:Int):=(aX _).trans ae
  refine⟨?_,B2.drew⟩
  show Ending.returned (Value.int .i64 (IntKind.i64.wrap (IntKind.i64.wrap (P:Int) - 1)))=Ending.returned (Value.int .i64 ((P:Int) - 1))
  rw[i0,HI.out.2.2]
end
open Go.RowKit Go.Lib Go.Shelf
section
variable {g u m : Nat} {lo hi dg : Int} {w : World}
theorem wE(h:rQ w g lo hi dg u m):Calls Tryz.prog 161 #[.pointer (some ⟨g,0,none⟩)] w fun e w'=>e=.returned (.agg #[.int .i64 lo,.int .i64 hi,.int .i64 dg])/\Below w.heap.size w w':=by
 obtain⟨b,hbb⟩:∃b,w.heap.size=b:=⟨_,rfl⟩;obtain⟨w1,hw1⟩:∃w1,w.alloc (.cells #[.int .i64 0,.int .i64 0,.int .i64 0] 32)=w1:=⟨_,rfl⟩;have hb1:Below w.heap.size w w1:=by rw[<-hw1];exact bw
 have B1:dH w1 b 32 #[.int .i64 0,.int .i64 0,.int .i64 0]:=by rw[<-hw1,<-hbb];exact dH.new _ _ _
 have M1:=dH.keep h hb1;have k0:=dH.cell M1 0;have k1:=dH.cell M1 1;have k2:=dH.cell M1 2;have f0:=B1.frozen 0;have f1:=B1.frozen 1;have f2:=B1.frozen 2;have j0:=B1.cell 0;have j1:=B1.cell 1;have j2:=B1.cell 2;simp only[aF,aC,aG] at k0 k1 k2 j0 j1 j2;have X:=aB (aN hb1 (aN B1 hbb));clear h M1 B1 hb1
 go_enter Tryz.func161,Tryz.ntmps161
 go_upto_region 1 with fail;clear hw1 hbb
 go_wp2_with fail;have hlt:=X.out.2.1.lt;have c0:=(((X.out.2.1.dP 0 (.int .i64 lo)).dP 1 (.int .i64 hi)).dP 2 (.int .i64 dg)).cell 0;have c1:=(((X.out.2.1.dP 0 (.int .i64 lo)).dP 1 (.int .i64 hi)).dP 2 (.int .i64 dg)).cell 1;have c2:=(((X.out.2.1.dP 0 (.int .i64 lo)).dP 1 (.int .i64 hi)).dP 2 (.int .i64 dg)).cell 2;simp only[bP,List.set_cons_zero,List.set_cons_succ,aF,aC,aG] at c0 c1 c2;refine bodyPost_ret (by simp[results,Tryz.results161,go_sem, *];try rfl) rfl ?_
 have hbb:=X.out.2.2;exact⟨rfl,((X.out.1.setCell (p:=⟨b,0,none⟩) (by show _<=b;omega) _).setCell (p:=⟨b,1,none⟩) (by show _<=b;omega) _).setCell (p:=⟨b,2,none⟩) (by show _<=b;omega) _⟩
end
end Go.Proofs.YtkiebccnpheloaaGreat.D
