/- Parts of a proof: what its theorem reaches, words cut short. No condition of its own. -/
import Derived.Test.YtingnldfpokckaaGreatPm28
set_option maxRecDepth 100000
set_option maxHeartbeats 16000000
set_option linter.unusedVariables false
set_option linter.unusedSimpArgs false
namespace Go.Proofs.YtingnldfpokckaaGreat.D
open Go.RowKit Go.Lib Go.Shelf
theorem rshape_not(lo hi dg:Int)(w:World)(h:HdNo lo hi dg)(h0:-9223372036854775808<=hi)(h1:hi<=9223372036854775807) :
 Calls Tryz.prog 23 #[.agg #[.int .i64 lo,.int .i64 hi,.int .i64 dg]] w fun e w'=>e=.returned (.tuple #[.int .i64 0,.int .i64 0,.bool false])/\Below w.heap.size w w':=by
 unfold HdNo at h
 by_cases c2:dg<1
 ·clear h
  go_enter Tryz.func23,Tryz.ntmps23
  go_wp2_with fail
  refine bodyPost_ret (by simp[results,Tryz.results23,go_sem, *];try rfl) rfl ?_
  exact⟨rfl,by(repeat' (first|(with_reducible exact Below.refl _ _)|(with_reducible refine Below.alloc ?_ ?_ _)|(with_reducible refine Below.drew ?_)|(with_reducible refine below_drewN ?_ _)|(with_reducible refine Below.setCell ?_ ?_ _)|(with_reducible refine below_of (by assumption) ?_ ?_)|go_size))⟩
 by_cases c3:5<dg
 ·clear h
  go_enter Tryz.func23,Tryz.ntmps23
  go_wp2_with fail
  refine bodyPost_ret (by simp[results,Tryz.results23,go_sem, *];try rfl) rfl ?_
  exact⟨rfl,by(repeat' (first|(with_reducible exact Below.refl _ _)|(with_reducible refine Below.alloc ?_ ?_ _)|(with_reducible refine Below.drew ?_)|(with_reducible refine below_drewN ?_ _)|(with_reducible refine Below.setCell ?_ ?_ _)|(with_reducible refine below_of (by assumption) ?_ ?_)|go_size))⟩
 by_cases c4:lo<1
 ·clear h
  go_enter Tryz.func23,Tryz.ntmps23
  go_wp2_with fail
  refine bodyPost_ret (by simp[results,Tryz.results23,go_sem, *];try rfl) rfl ?_
  exact⟨rfl,by(repeat' (first|(with_reducible exact Below.refl _ _)|(with_reducible refine Below.alloc ?_ ?_ _)|(with_reducible refine Below.drew ?_)|(with_reducible refine below_drewN ?_ _)|(with_reducible refine Below.setCell ?_ ?_ _)|(with_reducible refine below_of (by assumption) ?_ ?_)|go_size))⟩
 by_cases c5:hi<lo
 ·clear h
  go_enter Tryz.func23,Tryz.ntmps23
  go_wp2_with fail
  refine bodyPost_ret (by simp[results,Tryz.results23,go_sem, *];try rfl) rfl ?_
  exact⟨rfl,by(repeat' (first|(with_reducible exact Below.refl _ _)|(with_reducible refine Below.alloc ?_ ?_ _)|(with_reducible refine Below.drew ?_)|(with_reducible refine below_drewN ?_ _)|(with_reducible refine Below.setCell ?_ ?_ _)|(with_reducible refine below_of (by assumption) ?_ ?_)|go_size))⟩
 have c6:wrap64 (hi - lo)=hi - lo:=by unfold wrap64;omega
 have c7:hi - lo<lo:=by omega
 clear h
 go_enter Tryz.func23,Tryz.ntmps23
 go_wp2_with fail
 refine bodyPost_ret (by simp[results,Tryz.results23,go_sem, *];try rfl) rfl ?_
 exact⟨rfl,by(repeat' (first|(with_reducible exact Below.refl _ _)|(with_reducible refine Below.alloc ?_ ?_ _)|(with_reducible refine Below.drew ?_)|(with_reducible refine below_drewN ?_ _)|(with_reducible refine Below.setCell ?_ ?_ _)|(with_reducible refine below_of (by assumption) ?_ ?_)|go_size))⟩
def nn(v:Int):List Int:=lebF 8 (sgn v)
theorem nn_len(v:Int):1<=(nn v).length/\(nn v).length<=9:=lebF_len 8 _
def gapN(g:Int):List Int:=if g=1 then [0] else if 1<g then [-g] else []
def nmB:Int->List Pr->List Int
 | _,[]=>[]
 | a,p::l=>gapN (p.1 - a)++p.2::nmB (p.1+1) l
def nmA(l:List Pr):List Int:=if l=[] then [0] else nmB 0 l
def nnB(l:List Int):List Int:=l.flatMap nn
def cntA(l:List Pr):List Int:=nnB (nmA l)
def beN:Nat->Int->List Int
 | 0,_=>[]
 | k+1,n=>beN k (n / 256)++[n % 256]
theorem beN_len:∀(k:Nat) (n:Int),(beN k n).length=k
 | 0,_=>rfl
 | k+1,n=>by rw[beN,List.length_append,beN_len k];rfl
def hwHead(lo reach dg c:Int):List Int:=beN 4 478450451++beN 4 c++beN 4 0++beN 4 dg++beN 8 lo++beN 8 reach++beN 8 4607182418800017408
def hwB(lo reach dg:Int)(l:List Pr):List Int:=hwHead lo reach dg (cntA l).length++cntA l
def endH(a:Int):List Pr->Int
 | []=>a
 | p::l=>endH (p.1+1) l
theorem gapN_len(g:Int):(gapN g).length<=1:=by unfold gapN;(repeat' split)<;>simp
theorem nmB_len:∀(l:List Pr) (a:Int),(nmB a l).length<=2 * l.length
 | [],_=>by simp[nmB]
 | p::l,a=>by
  have h1:=gapN_len (p.1 - a)
  have h2:=nmB_len l (p.1+1)
  rw[nmB,List.length_append,List.length_cons,List.length_cons];omega
theorem nmA_len(l:List Pr):(nmA l).length<=2 * l.length+1:=by
 unfold nmA;split
 ·simp
 ·have:=nmB_len l 0;omega
theorem nnB_len:∀(l:List Int),l.length<=(nnB l).length/\(nnB l).length<=9 * l.length
 | []=>by simp[nnB]
 | n::l=>by
  have h1:=nn_len n
  have h2:=nnB_len l
  have e:nnB (n::l)=nn n++nnB l:=rfl
  rw[e,List.length_append,List.length_cons];omega
theorem nnB_append(a b:List Int):nnB (a++b)=nnB a++nnB b:=List.flatMap_append
theorem cntA_len(l:List Pr):1<=(cntA l).length/\(cntA l).length<=18 * l.length+9:=by
 have h1:=nmA_len l
 have h2:=nnB_len (nmA l)
 have h3:1<=(nmA l).length:=by
  unfold nmA;split
  ·simp
  ·rename_i h
   cases l with
   | nil=>exact absurd rfl h
   | cons p l=>rw[nmB,List.length_append,List.length_cons];omega
 unfold cntA
 omega
theorem hwB_len(lo reach dg:Int)(l:List Pr):(hwB lo reach dg l).length=40+(cntA l).length:=by unfold hwB hwHead;simp only[List.length_append,beN_len]
section
open Go.Lib
variable {lo hi dg u m bk : Nat} {gr : Bool} {l : List Pr}
theorem HsOk.pb(h:HsOk lo hi dg u m gr bk l):∀p∈l,0<=p.1/\p.1<=16777216/\0<p.2/\p.2<=4611686018427387904:=fun p hp=>by
 have h1:=h.kb p hp
 have h2:=h.pos p hp
 have h3:=pos_le h.pos p hp
 have:=h.sum
 omega
end
open Go.RowKit Go.Lib
structure FL(k:Nat)(c sz:Int):Prop where
 e:c=fLet k
 lt:k<10
 no:∀j,j<k->(fLet j == c)=false
 yes:(fLet k == c)=true
 siz:fSiz k=sz
theorem fl_of(k:Nat)(c sz:Int)(h:(decide (k<10) && decide (c=fLet k) && decide (fSiz k=sz) && (List.range k).all (fun j=>!(fLet j == c)))=true):FL k c sz:=by
 simp only[Bool.and_eq_true,decide_eq_true_eq,List.all_eq_true,List.mem_range] at h
 obtain⟨⟨⟨h1,h2⟩,h3⟩,h4⟩:=h
 exact⟨h2,h1,fun j hj=>by have:=h4 j hj;simpa using this,by rw[h2];simp,h3⟩
theorem fl_b:FL 0 98 1:=fl_of 0 98 1 (by decide)
theorem fl_W:FL 4 87 4:=fl_of 4 87 4 (by decide)
theorem fl_Q:FL 6 81 8:=fl_of 6 81 8 (by decide)
theorem fl_v:FL 7 118 0:=fl_of 7 118 0 (by decide)
theorem vz_n:VZ 9 110:=by
 have h:=fl_of 9 110 0 (by decide)
 exact⟨h.e,h.lt,h.no,h.yes,h.siz⟩
theorem formOfk_any(k:Nat)(c sz:Int)(w:World)(h:FL k c sz) :
 Calls Tryz.prog 200 #[.int .u8 c] w fun e w'=>e=.returned (.tuple #[.agg #[.int .u8 c,.int .i64 sz,.func (.func (fPut k)) #[] #[],.func (.func (fGet k)) #[] #[]],.bool true])/\Below w.heap.size w w':=by
 have H:=Lib.hid h
 have hk:=h.lt
 have hk1:(k:Int)<10:=by omega
 clear h
 go_enter Tryz.func200,Tryz.ntmps200
 go_wp2_with fail
 refine(forms_any _).mono ?_
 rintro e w1 ⟨rfl,hb1⟩
 have hz1:=hb1.size
 simp only[World.size_alloc] at hz1
 have CB:Hid (w1.cell? ⟨w.heap.size,0,none⟩=some (.int .u8 c)):=by
  refine(hb1.cell (p:=⟨w.heap.size,0,none⟩) (by show w.heap.size<_;simp only[World.size_alloc];omega)).trans ?_
  refine(((Below.refl (w.alloc (.cells #[.int .u8 c] 5)).heap.size (w.alloc (.cells #[.int .u8 c] 5))).alloc (Nat.le_refl _) _).cell (p:=⟨w.heap.size,0,none⟩) (by show w.heap.size<_;simp only[World.size_alloc];omega)).trans ?_
  simp[World.cell?_alloc_new]
 have hlt0:w.heap.size<w1.heap.size:=by omega
 have HT:Hid (Blk w1 (w.heap.size+1) 295 #[.int .u8 0,.int .i64 0,Value.nilFunc,Value.nilFunc]):=by
  have h:=(Blk.new (w.alloc (.cells #[.int .u8 c] 5)) 295 #[.int .u8 0,.int .i64 0,Value.nilFunc,Value.nilFunc]).keep hb1
  rwa [World.size_alloc] at h
 go_wp2_with (refine wpList_store_row rfl 374 (.tmp 4) (.tmp 6) rfl w1.heap.size formsA rfl rfl 374 _ (heap_alloc_new _ _) (by as_aux_lemma=>kernel_rfl) (by as_aux_lemma=>kernel_rfl) (by as_aux_lemma=>kernel_rfl) ?_)
 have BG:=setRow_heap _ _ _ formsA _ _ (heap_alloc_new w1 (Obj.cells
  #[Value.int IntKind.u8 0,Value.int IntKind.i64 0,Value.nilFunc,Value.nilFunc,Value.int IntKind.u8 0,
   Value.int IntKind.i64 0,Value.nilFunc,Value.nilFunc,Value.int IntKind.u8 0,Value.int IntKind.i64 0,
   Value.nilFunc,Value.nilFunc,Value.int IntKind.u8 0,Value.int IntKind.i64 0,Value.nilFunc,
   Value.nilFunc,Value.int IntKind.u8 0,Value.int IntKind.i64 0,Value.nilFunc,Value.nilFunc,
   Value.int IntKind.u8 0,Value.int IntKind.i64 0,Value.nilFunc,Value.nilFunc,Value.int IntKind.u8 0,
   Value.int IntKind.i64 0,Value.nilFunc,Value.nilFunc,Value.int IntKind.u8 0,Value.int IntKind.i64 0,
   Value.nilFunc,Value.nilFunc,Value.int IntKind.u8 0,Value.int IntKind.i64 0,Value.nilFunc,
   Value.nilFunc,Value.int IntKind.u8 0,Value.int IntKind.i64 0,Value.nilFunc,Value.nilFunc]
  374))
 have hb2:=below_setRow ((Below.refl w1.heap.size w1).alloc (Nat.le_refl _) (Obj.cells
  #[Value.int IntKind.u8 0,Value.int IntKind.i64 0,Value.nilFunc,Value.nilFunc,Value.int IntKind.u8 0,
   Value.int IntKind.i64 0,Value.nilFunc,Value.nilFunc,Value.int IntKind.u8 0,Value.int IntKind.i64 0,
   Value.nilFunc,Value.nilFunc,Value.int IntKind.u8 0,Value.int IntKind.i64 0,Value.nilFunc,
   Value.nilFunc,Value.int IntKind.u8 0,Value.int IntKind.i64 0,Value.nilFunc,Value.nilFunc,
   Value.int IntKind.u8 0,Value.int IntKind.i64 0,Value.nilFunc,Value.nilFunc,Value.int IntKind.u8 0,
   Value.int IntKind.i64 0,Value.nilFunc,Value.nilFunc,Value.int IntKind.u8 0,Value.int IntKind.i64 0,
   Value.nilFunc,Value.nilFunc,Value.int IntKind.u8 0,Value.int IntKind.i64 0,Value.nilFunc,
   Value.nilFunc,Value.int IntKind.u8 0,Value.int IntKind.i64 0,Value.nilFunc,Value.nilFunc]
  374)) (Nat.le_refl w1.heap.size) formsA
 generalize (w1.alloc (Obj.cells
  #[Value.int IntKind.u8 0,Value.int IntKind.i64 0,Value.nilFunc,Value.nilFunc,Value.int IntKind.u8 0,
   Value.int IntKind.i64 0,Value.nilFunc,Value.nilFunc,Value.int IntKind.u8 0,Value.int IntKind.i64 0,
   Value.nilFunc,Value.nilFunc,Value.int IntKind.u8 0,Value.int IntKind.i64 0,Value.nilFunc,
   Value.nilFunc,Value.int IntKind.u8 0,Value.int IntKind.i64 0,Value.nilFunc,Value.nilFunc,
   Value.int IntKind.u8 0,Value.int IntKind.i64 0,Value.nilFunc,Value.nilFunc,Value.int IntKind.u8 0,
   Value.int IntKind.i64 0,Value.nilFunc,Value.nilFunc,Value.int IntKind.u8 0,Value.int IntKind.i64 0,
   Value.nilFunc,Value.nilFunc,Value.int IntKind.u8 0,Value.int IntKind.i64 0,Value.nilFunc,
   Value.nilFunc,Value.int IntKind.u8 0,Value.int IntKind.i64 0,Value.nilFunc,Value.nilFunc]
  374)).setRow w1.heap.size formsA=w2 at *
 have HG:Hid (Blk w2 w1.heap.size 374 formsA):=Lib.hid BG
 have hlt2:=HG.out.lt
 have hz2:=hb2.size
 refine(indexF_any k c w1.heap.size w.heap.size w2 hk HG.out ((hb2.cell (p:=⟨w.heap.size,0,none⟩) hlt0).trans CB.out) H.out.no H.out.yes).mono ?_
 rintro e w3 ⟨rfl,hb3⟩
 have hz3:=hb3.size
 have G3:=HG.out.keep hb3
 obtain⟨x0,x1,x2,x3⟩:=formsA_at k hk
 have e0:=(G3.cell (k * 4)).trans x0
 have e1:=(G3.cell (k * 4+1)).trans x1
 have e2:=(G3.cell (k * 4+2)).trans x2
 have e3:=(G3.cell (k * 4+3)).trans x3
 unfold fnV at e2 e3
 rw[<-H.out.e] at e0
 rw[H.out.siz] at e1
 have T3:Hid (Blk w3 (w.heap.size+1) 295 #[.int .u8 0,.int .i64 0,Value.nilFunc,Value.nilFunc]):=(HT.out.below hb2 (by omega)).below hb3 (by omega)
 have hkn:decide ((k:Int)<0)=false:=decide_eq_false (by omega)
 clear BG G3 x0 x1 x2 x3 CB HT HG
 have hi4:(Tryz.prog.info? 295).map (·.size)=some 4:=by kernel_rfl
 obtain⟨pp,hpp⟩:∃pp,fPut k=pp:=⟨_,rfl⟩
 obtain⟨gg,hgg⟩:∃gg,fGet k=gg:=⟨_,rfl⟩
 rw[hpp] at e2
 rw[hgg] at e3
 have HPP:=Lib.hid hpp
 have HGG:=Lib.hid hgg
 clear hpp hgg
 go_wp2_with ((refine wpList_store_row rfl 295 (.tmp 2) (.tmp 15) rfl (w.heap.size+1) #[.int .u8 c,.int .i64 sz,.func (.func pp) #[] #[],.func (.func gg) #[] #[]] rfl rfl 295 _ T3.out hi4 rfl (by simp[Value.oneCell']) ?_))
 have B4:Blk (w3.setRow (w.heap.size+1) #[.int .u8 c,.int .i64 sz,.func (.func pp) #[] #[],.func (.func gg) #[] #[]]) (w.heap.size+1) 295 #[.int .u8 c,.int .i64 sz,.func (.func pp) #[] #[],.func (.func gg) #[] #[]]:=setRow_heap _ _ _ _ _ _ T3.out
 have hb4:Below w.heap.size w (w3.setRow (w.heap.size+1) #[.int .u8 c,.int .i64 sz,.func (.func pp) #[] #[],.func (.func gg) #[] #[]]):=by
  refine below_setRow ?_ (by omega) _
  exact((((((Below.refl _ _).alloc (Nat.le_refl _) _).alloc (by simp) _).trans (hb1.mono (by simp only[World.size_alloc];omega))).trans (hb2.mono (by omega))).trans (hb3.mono (by omega)))
 generalize w3.setRow (w.heap.size+1) #[.int .u8 c,.int .i64 sz,.func (.func pp) #[] #[],.func (.func gg) #[] #[]]=w4 at *
 have k0:=B4.cell 0
 have k1:=B4.cell 1
 have k2:=B4.cell 2
 have k3:=B4.cell 3
 simp only[List.getElem?_toArray,List.getElem?_cons_succ,List.getElem?_cons_zero] at k0 k1 k2 k3
 clear e0 e1 e2 e3 B4
 go_wp2_with fail
 refine bodyPost_ret (by simp[results,Tryz.results200,go_sem, *];try rfl) rfl ?_
 exact⟨by rw[HPP.out,HGG.out],hb4⟩
def bE:Lie Int where
 k:=1
 t:=5
 enc x:=[.int .u8 x]
 len _:=rfl
 one x u hu:=by
  simp only[List.mem_cons,List.not_mem_nil,or_false] at hu
  subst hu;rfl
theorem bI:(Tryz.prog.info? 5).map (fun i=>(i.zero,i.size,i.bytes))=some (some (.int .u8 0),1,1):=by kernel_rfl
theorem tyB:Ty Tryz.prog bE 44:=ty_of bI Tryz.underlying44 rfl (by decide) (by decide)
theorem cells_b:∀l:List Int,cellsE bE l=l.map (Value.int .u8)
 | []=>rfl
 | x::l=>by rw[cellsE_cons,cells_b l];rfl
theorem ownB_E{base:Nat}{w:World}{v:Value}{l:List Int}:OwnB base w v l<->OwnE bE base w v l:=by
 unfold OwnB OwnI OwnE
 rw[cells_b];rfl
theorem beN_at:∀(K:Nat) (n:Int) (j:Nat),j<K->(beN K n)[j]?=some (n / 2 ^ (8 * (K - 1 - j)) % 256)
 | K+1,n,j,h=>by
  rw[beN]
  rcases Nat.lt_or_ge j K with hj|hj
  ·rw[List.getElem?_append_left (by rw[beN_len];exact hj),beN_at K _ j hj,Int.ediv_ediv_of_nonneg (by omega)]
   have e:(256:Int) * 2 ^ (8 * (K - 1 - j))=2 ^ (8 * (K+1 - 1 - j)):=by
    rw[show K+1 - 1 - j=K - 1 - j+1 by omega,Nat.mul_add,Int.pow_add,Int.mul_comm];rfl
   rw[e]
  ·obtain rfl:j=K:=by omega
   rw[List.getElem?_append_right (by rw[beN_len];exact Nat.le_refl _),beN_len]
   simp
theorem whigh_any(g base K:Nat)(n:Int)(bs:List Int)(w:World)(h:Wr 291 base w g bs)(n0:0<=n)(n1:n<18446744073709551616)(hK:K<=8)(hl:bs.length<=1000000000000) :
 Calls Tryz.prog 354 #[.pointer (some ⟨g,0,none⟩),.int .u64 n,.int .i64 K] w fun e w'=>e=.returned (.tuple #[])/\Wr 291 base w' g (bs++beN K n)/\Below base w w':=by
 have H:=Lib.hid h
 have hlt:=h.lt
 clear h
 have EK:Hid (IntKind.i64.wrap ((K:Int) - 1)=(K:Int) - 1):=Lib.hid (by rw[IntKind.wrap_i64];omega)
 have ek:=EK.out
 go_enter Tryz.func354,Tryz.ntmps354
 go_wp2_with fail
 go_loopg [6] K (fun q i wr=>∃j:Nat,q=K - j/\j<=K/\i=.int .i64 ((K:Int) - 1 - j)/\Hid (Wr 291 base wr g (bs++(beN K n).take j))/\Below base w wr)
 case atStart=>exact⟨0,rfl,by omega,by simp,by rw[List.take_zero,List.append_nil];exact H,Below.refl _ _⟩
 case round=>
  obtain⟨j,hq,hj,rfl,hw,hb⟩:=hrel
  have HQ:=Lib.hid hq
  have hz:=hb.size
  clear hq ek
  by_cases hlj:j<K
  ·obtain⟨i,hi⟩:∃i,K - 1 - j=i:=⟨_,rfl⟩
   have hiI:(K:Int) - 1 - j=(i:Int):=by omega
   rw[hiI]
   have hi0:(0:Int)<=(i:Int):=by omega
   obtain⟨s,hs⟩:∃s,8 * i=s:=⟨_,rfl⟩
   have hs64:s<64:=by omega
   have ES:Hid (IntKind.i64.wrap (8 * (i:Int))=(s:Int)):=Lib.hid (by rw[IntKind.wrap_i64];omega)
   have EI:Hid (IntKind.i64.wrap ((i:Int) - 1)=(i:Int) - 1):=Lib.hid (by rw[IntKind.wrap_i64];omega)
   have hbyte:(beN K n)[j]?=some (n / 2 ^ s % 256):=by rw[beN_at K n j hlj,hi,hs]
   have eb:IntKind.u8.wrap (n / 2 ^ s)=n / 2 ^ s % 256:=rfl
   obtain⟨y,hy⟩:∃y,n / 2 ^ s % 256=y:=⟨_,rfl⟩
   rw[hy] at hbyte eb
   have HBT:Hid ((beN K n).take (j+1)=(beN K n).take j++[y]):=Lib.hid (by rw[List.take_add_one,hbyte];rfl)
   clear hy
   obtain⟨hbg,v,hB,hO⟩:=hw.out
   have HB:=Lib.hid hB
   have HO:=Lib.hid hO
   have hlen:(bs++(beN K n).take j).length+1<=1099511627776:=by
    have h1:=beN_len K n
    rw[List.length_append,List.length_take];omega
   clear hB hO hs hi hbyte
   have hsI:(s:Int)<64:=by omega
   have Bd:Blk wr.drew g 291 #[v]:=HB.out.drew
   generalize (beN K n).take j=T at *
   obtain⟨A0,k0,hv0,_,_,_⟩:=(OwnI.rd HO.out).form
   obtain⟨N0,hN0⟩:∃N,(bs++T).length=N:=⟨_,rfl⟩
   rw[hN0] at hv0
   subst hv0
   have HN0:=Lib.hid hN0
   clear hN0
   have HBa:Hid (Blk (wr.alloc (.cells #[.int .u8 y] 5)).drew g 291 #[.slice A0 N0 k0]):=Lib.hid (HB.out.alloc _).drew
   have HOa:Hid (OwnE bE base (wr.alloc (.cells #[.int .u8 y] 5)).drew (.slice A0 N0 k0) (bs++T)):=Lib.hid (OwnE.alloc (ownB_E.1 HO.out) _).drew
   have hba:Below base w (wr.alloc (.cells #[.int .u8 y] 5)).drew:=(hb.alloc (by omega) _).drew
   go_upto_region 3 with fail
   refine wp_region_planT (fun w'=>Blk w' g 291 #[.slice A0 N0 k0]) 12 [(0,true),(1,true),(2,true),(3,true),(4,true),(5,true),(6,true),(7,true),(8,true),(9,true),(10,false),(11,false)] (by kernel_rfl) (by kernel_rfl) (Bd) ?_
   iterate 10
    refine wpPlanT_read (by rfl) (by rfl) (fun R hR=>?_)
    apply Exists.intro
    refine⟨fun w' hS'=>?_,?_⟩
    ·have c0:=Blk.cell hS' 0
     simp only[List.getElem?_toArray,List.getElem?_cons_zero] at c0
     have es:=ES.out
     go_simp
     exact⟨rfl,rfl⟩
    go_simp
    refine hR _ ?_
    clear hR R
   refine wpPlanT_do (by rfl) (by rfl) (fun K hK=>?_)
   go_simp
   refine hK _ _ (Bd.alloc _) ?_
   clear hK K
   refine wpPlanT_do (by rfl) (by rfl) (fun K hK=>?_)
   refine apW tyB (.tmp 17) (.tmp 23) rfl HOa.out rfl _ [y] rfl (OwnE.one (E:=bE) wr.drew y _ rfl _ rfl).rd hlen (by go_size) ?_
   intro v1 w1 o1 g1 _
   have B1:=blk_grown HBa.out HOa.out (by decide) g1
   have hb1:Below base w w1:=hba.grown g1 (by have:=hba.size;omega) (fun k hk=>(OwnE.lt HOa.out k hk).1)
   have P1:=Lib.hid (put_back (i:=0) HBa.out HOa.out (by decide) g1 o1)
   obtain⟨A1,c1,ev1,_,_,_⟩:=o1.form
   obtain⟨N1,hN1⟩:∃N,(bs++T++[y]).length=N:=⟨_,rfl⟩
   rw[hN1] at ev1
   subst ev1
   clear hN1 o1 g1
   refine hK _ _ (B1) ?_
   clear hK K
   refine wpPlanT_nil ?_
   simp only[List.drop_succ_cons,List.drop_zero]
   have c0:=B1.cell 0
   have f0:=B1.frozen 0
   simp only[List.getElem?_toArray,List.getElem?_cons_zero] at c0
   go_wp2_with fail
   refine calm_normal ?_
   have ei:=EI.out
   go_wp2_with fail
   go_roundg (K - (j+1))
   case measure=>have:=HQ.out;omega
   case rel=>
    refine⟨j+1,rfl,by omega,?_,?_,hb1.setCell (by omega) _⟩
    ·congr 1;omega
    ·rw[HBT.out,<-List.append_assoc]
     exact Lib.hid ⟨hbg,_,P1.out.1,ownB_E.2 P1.out.2⟩
  ·obtain rfl:j=K:=by omega
   have e1:((j:Int) - 1 - j)=-1:=by omega
   rw[e1]
   have hw9:=hw
   rw[List.take_of_length_le (by rw[beN_len];exact Nat.le_refl _)] at hw9
   go_wp2_with fail
   refine bodyPost_end (v:=.tuple #[]) (by simp[results,Tryz.results354,go_sem, *];try rfl) rfl ?_
   exact⟨rfl,hw9.out,hb⟩
open Go.RowKit Go.Lib
theorem or_top(p y:Int)(s:Nat)(p0:0<=p)(p1:p<2 ^ s)(y0:0<=y)(h:p+2 ^ s * y<18446744073709551616):bits .or .u64 p (IntKind.u64.wrap (y * 2 ^ s))=p+2 ^ s * y:=by
 obtain⟨a,rfl⟩:=Int.eq_ofNat_of_zero_le p0
 obtain⟨b,rfl⟩:=Int.eq_ofNat_of_zero_le y0
 have e2:((b:Int) * 2 ^ s)=((b * 2 ^ s:Nat):Int):=by simp
 have e3:(a:Int)+2 ^ s * (b:Int)=((a+2 ^ s * b:Nat):Int):=by simp
 have ha:a<2 ^ s:=by have:(a:Int)<((2 ^ s:Nat):Int):=by simpa using p1
                     omega
 rw[e3] at h |-
 have hb:b * 2 ^ s<18446744073709551616:=by rw[Nat.mul_comm];omega
 rw[e2,show IntKind.u64.wrap ((b * 2 ^ s:Nat):Int)=((b * 2 ^ s:Nat):Int) from by rw[u64w];omega,bits_or_u64_nat a _ (by omega) hb]
 have h':=Nat.two_pow_add_eq_or_of_lt ha b
 rw[Nat.or_comm,Nat.mul_comm b,<-h',Nat.add_comm]
theorem own_byte{bs r x:List Int}{a j:Nat}(hd:bs.drop a=x++r)(hj:j<x.length):∃h:a+j<bs.length,bs[a+j]=x[j]:=by
 have hl:=congrArg List.length hd
 rw[List.length_drop,List.length_append] at hl
 have h:a+j<bs.length:=by omega
 refine⟨h,?_⟩
 have e:=congrArg (fun l=>l[j]?) hd
 simp only[List.getElem?_drop,List.getElem?_append_left hj] at e
 rw[List.getElem?_eq_getElem h,List.getElem?_eq_getElem hj] at e
 exact Option.some.inj e
theorem rlow1_own{g a:Nat}{bs r:List Int}{n:Int}(w:World)(h:RdrAt w g bs a)(hlen:bs.length<=1000000000000)(hd:bs.drop a=n::r)(n0:0<=n)(n1:n<256) :
 Calls Tryz.prog 353 #[.pointer (some ⟨g,0,none⟩),.int .i64 1] w (GotO w g bs (a+1) (.tuple #[.int .u64 n,.int .i64 0])):=by
 have H:=Lib.hid h
 have CL:=Lib.hid (rleft_any g bs a w h hlen)
 obtain⟨v,h1,h2,h3⟩:=h
 obtain⟨A1,k1,rfl,_,m1,f1⟩:=(OwnI.rd h2).form
 have c0:=h1.cell 0
 have c1:=h1.cell 1
 have fz:=h1.frozen 1
 simp only[List.getElem?_toArray,List.getElem?_cons_succ,List.getElem?_cons_zero] at c0 c1
 have F1:=Lib.hid f1
 have HL:a+1<=bs.length:=by
  have hl:=congrArg List.length hd
  rw[List.length_drop,List.length_cons] at hl
  omega
 have HD:=Lib.hid hd
 have hli:¬((bs.length:Int) - (a:Int)<1):=by omega
 have EW:Hid (IntKind.i64.wrap ((a:Int)+1)=((a+1:Nat):Int)):=Lib.hid (by rw[IntKind.wrap_i64];omega)
 have O0:Hid (bits .or .u64 0 n=n):=Lib.hid (by
  have:=or_top 0 n 0 (by omega) (by simp) n0 (by simp;omega)
  simpa[show IntKind.u64.wrap n=n by rw[u64w];omega] using this)
 have EX:Hid (IntKind.u64.wrap n=n):=Lib.hid (by rw[u64w];omega)
 clear h1 h2 f1 hd
 go_enter Tryz.func353,Tryz.ntmps353
 go_wp2_with fail
 refine(CL.out).mono ?_
 rintro e w' ⟨rfl,nq0,rfl⟩
 go_wp2_with fail
 go_loopg [6,13] 1 (fun q p i wr=>∃(j nq:Nat),q=1 - j/\j<=1/\i=.int .i64 j/\p=.int .u64 (if j=0 then 0 else n)/\wr=w.drewN nq)
 case atStart=>exact⟨0,nq0,rfl,by omega,rfl,rfl,rfl⟩
 case round=>
  obtain⟨j,nq,hq,hj,rfl,rfl,rfl⟩:=hrel
  have HQ:=Lib.hid hq
  clear hq
  by_cases hlt:j<1
  ·obtain rfl:j=0:=by omega
   rw[if_pos rfl]
   obtain⟨hab,hby⟩:=own_byte (x:=[n]) (j:=0) (r:=r) HD.out (by simp)
   obtain⟨gb,ob,rfl,hgb,e0⟩:=F1.out.at_ hab
   have hbn:bs[a+0]=n:=by rw[hby];rfl
   rw[hbn] at e0
   simp only[Nat.add_zero] at e0
   have ajt:((a:Int)).toNat=a:=by omega
   have aj0:(0:Int)<=(a:Int):=by omega
   have aj1:(a:Int)<(bs.length:Int):=by omega
   have EA:=Lib.hid (IntWalk.i64_in (a:Int) (by omega))
   have CC:=Lib.hid (And.intro c0 (And.intro c1 e0))
   clear hbn hby
   go_upto_region 7 with fail
   refine wp_region_plan (fun w'=>w'.cell? ⟨g,0,none⟩=some (.slice (some ⟨gb,ob,none⟩) bs.length k1)/\w'.cell? ⟨g,1,none⟩=some (.int .i64 a)/\w'.cell? ⟨gb,ob+a,none⟩=some (.int .u8 n)) [(0,true),(1,true),(2,true),(3,true),(4,true),(5,true),(6,true),(7,true),(8,true),(9,true),(10,true),(11,true),(12,true),(13,true),(14,true),(15,true),(16,true),(17,true),(18,true)] (by kernel_rfl) (by kernel_rfl) (CC.out) ?_
   iterate 19
    refine wpPlan_read (by rfl) (by rfl) (fun R hR=>?_)
    apply Exists.intro
    refine⟨fun w' hS'=>?_,?_⟩
    ·obtain⟨q0,q1,q2⟩:=hS'
     have o0:=O0.out
     have ea:=EA.out
     have ex:=EX.out
     have e0':IntKind.i64.wrap 0=0:=rfl
     go_simp
     exact⟨rfl,rfl⟩
    go_simp
    refine hR _ ?_
    clear hR R
   refine wpPlan_nil ?_
   go_wp2_with fail
   go_roundg 0
   case measure=>have:=HQ.out;omega
   case rel=>exact⟨1,nq+1,rfl,by omega,by go_num,by have:=O0.out;have:=EX.out;simp_all,rfl⟩
  ·obtain rfl:j=1:=by omega
   rw[if_neg (by omega)]
   have ew:=EW.out
   go_wp2_with fail
   go_ret2
   exact⟨rfl,(H.out.drewN nq).put (a+1) HL,touch_at w nq g 1 _⟩
open Go.RowKit Go.Lib
open Go.RowKit Go.Lib Go.Shelf
end Go.Proofs.YtingnldfpokckaaGreat.D
