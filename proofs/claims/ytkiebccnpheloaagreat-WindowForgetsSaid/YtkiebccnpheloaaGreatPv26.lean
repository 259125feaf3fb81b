/- Parts of a proof: what its theorem reaches, words cut short. No condition of its own. -/
import Derived.Test.YtkiebccnpheloaaGreatPv25
import Derived.Test.YtkiebccnpheloaaGreatPv22
set_option maxRecDepth 100000
set_option maxHeartbeats 16000000
set_option linter.unusedVariables false
set_option linter.unusedSimpArgs false
namespace Go.Proofs.YtkiebccnpheloaaGreat.D
open Go.RowKit Go.Lib
structure FL(k:Nat)(c sz:Int):Prop where
 e:c=fLet k
 lt:k<10
 no:∀j,j<k->(fLet j == c)=false
 yes:(fLet k == c)=true
 siz:fSiz k=sz
theorem fl_of(k:Nat)(c sz:Int)(h:(decide (k<10) && decide (c=fLet k) && decide (fSiz k=sz) && (List.range k).all (fun j=>!(fLet j == c)))=true):FL k c sz:=by
 simp only[Bool.and_eq_true,decide_eq_true_eq,List.all_eq_true,List.mem_range] at h
 obtain⟨⟨⟨h1,h2⟩,h3⟩,h4⟩:=h
 exact⟨h2,h1,fun j hj=>by have:=h4 j hj;simpa using this,by rw[h2];simp,h3⟩
theorem fl_b:FL 0 98 1:=fl_of 0 98 1 (by decide)
theorem fl_W:FL 4 87 4:=fl_of 4 87 4 (by decide)
theorem fl_Q:FL 6 81 8:=fl_of 6 81 8 (by decide)
theorem fl_v:FL 7 118 0:=fl_of 7 118 0 (by decide)
theorem vz_n:VZ 9 110:=by
 have h:=fl_of 9 110 0 (by decide)
 exact⟨h.e,h.lt,h.no,h.yes,h.siz⟩
theorem formOfk_any(k:Nat)(c sz:Int)(w:World)(h:FL k c sz) :
 Calls Tryz.prog 248 #[.int .u8 c] w fun e w'=>e=.returned (.tuple #[.agg #[.int .u8 c,.int .i64 sz,.func (.func (fPut k)) #[] #[],.func (.func (fGet k)) #[] #[]],.bool true])/\Below w.heap.size w w':=by
 have H:=Lib.hid h
 have hk:=h.lt
 have hk1:(k:Int)<10:=by omega
 clear h
 go_enter Tryz.func248,Tryz.ntmps248
 go_wp2_with fail
 refine(forms_any _).mono ?_
 rintro e w1 ⟨rfl,hb1⟩
 have hz1:=hb1.size
 simp only[World.size_alloc] at hz1
 have CB:Hid (w1.cell? ⟨w.heap.size,0,none⟩=some (.int .u8 c)):=by
  refine(hb1.cell (p:=⟨w.heap.size,0,none⟩) (by show w.heap.size<_;simp only[World.size_alloc];omega)).trans ?_
  refine(((Below.refl (w.alloc (.cells #[.int .u8 c] 5)).heap.size (w.alloc (.cells #[.int .u8 c] 5))).alloc (Nat.le_refl _) _).cell (p:=⟨w.heap.size,0,none⟩) (by show w.heap.size<_;simp only[World.size_alloc];omega)).trans ?_
  simp[World.cell?_alloc_new]
 have hlt0:w.heap.size<w1.heap.size:=by omega
 have HT:Hid (Blk w1 (w.heap.size+1) 336 #[.int .u8 0,.int .i64 0,Value.nilFunc,Value.nilFunc]):=by
  have h:=(Blk.new (w.alloc (.cells #[.int .u8 c] 5)) 336 #[.int .u8 0,.int .i64 0,Value.nilFunc,Value.nilFunc]).keep hb1
  rwa [World.size_alloc] at h
 go_wp2_with (refine wpList_store_row rfl 443 (.tmp 4) (.tmp 6) rfl w1.heap.size formsA rfl rfl 443 _ (heap_alloc_new _ _) (by as_aux_lemma=>kernel_rfl) (by as_aux_lemma=>kernel_rfl) (by as_aux_lemma=>kernel_rfl) ?_)
 have BG:=setRow_heap _ _ _ formsA _ _ (heap_alloc_new w1 (Obj.cells
  #[Value.int IntKind.u8 0,Value.int IntKind.i64 0,Value.nilFunc,Value.nilFunc,Value.int IntKind.u8 0,
   Value.int IntKind.i64 0,Value.nilFunc,Value.nilFunc,Value.int IntKind.u8 0,Value.int IntKind.i64 0,
   Value.nilFunc,Value.nilFunc,Value.int IntKind.u8 0,Value.int IntKind.i64 0,Value.nilFunc,
   Value.nilFunc,Value.int IntKind.u8 0,Value.int IntKind.i64 0,Value.nilFunc,Value.nilFunc,
   Value.int IntKind.u8 0,Value.int IntKind.i64 0,Value.nilFunc,Value.nilFunc,Value.int IntKind.u8 0,
   Value.int IntKind.i64 0,Value.nilFunc,Value.nilFunc,Value.int IntKind.u8 0,Value.int IntKind.i64 0,
   Value.nilFunc,Value.nilFunc,Value.int IntKind.u8 0,Value.int IntKind.i64 0,Value.nilFunc,
   Value.nilFunc,Value.int IntKind.u8 0,Value.int IntKind.i64 0,Value.nilFunc,Value.nilFunc]
  443))
 have hb2:=below_setRow ((Below.refl w1.heap.size w1).alloc (Nat.le_refl _) (Obj.cells
  #[Value.int IntKind.u8 0,Value.int IntKind.i64 0,Value.nilFunc,Value.nilFunc,Value.int IntKind.u8 0,
   Value.int IntKind.i64 0,Value.nilFunc,Value.nilFunc,Value.int IntKind.u8 0,Value.int IntKind.i64 0,
   Value.nilFunc,Value.nilFunc,Value.int IntKind.u8 0,Value.int IntKind.i64 0,Value.nilFunc,
   Value.nilFunc,Value.int IntKind.u8 0,Value.int IntKind.i64 0,Value.nilFunc,Value.nilFunc,
   Value.int IntKind.u8 0,Value.int IntKind.i64 0,Value.nilFunc,Value.nilFunc,Value.int IntKind.u8 0,
   Value.int IntKind.i64 0,Value.nilFunc,Value.nilFunc,Value.int IntKind.u8 0,Value.int IntKind.i64 0,
   Value.nilFunc,Value.nilFunc,Value.int IntKind.u8 0,Value.int IntKind.i64 0,Value.nilFunc,
   Value.nilFunc,Value.int IntKind.u8 0,Value.int IntKind.i64 0,Value.nilFunc,Value.nilFunc]
  443)) (Nat.le_refl w1.heap.size) formsA
 generalize (w1.alloc (Obj.cells
  #[Value.int IntKind.u8 0,Value.int IntKind.i64 0,Value.nilFunc,Value.nilFunc,Value.int IntKind.u8 0,
   Value.int IntKind.i64 0,Value.nilFunc,Value.nilFunc,Value.int IntKind.u8 0,Value.int IntKind.i64 0,
   Value.nilFunc,Value.nilFunc,Value.int IntKind.u8 0,Value.int IntKind.i64 0,Value.nilFunc,
   Value.nilFunc,Value.int IntKind.u8 0,Value.int IntKind.i64 0,Value.nilFunc,Value.nilFunc,
   Value.int IntKind.u8 0,Value.int IntKind.i64 0,Value.nilFunc,Value.nilFunc,Value.int IntKind.u8 0,
   Value.int IntKind.i64 0,Value.nilFunc,Value.nilFunc,Value.int IntKind.u8 0,Value.int IntKind.i64 0,
   Value.nilFunc,Value.nilFunc,Value.int IntKind.u8 0,Value.int IntKind.i64 0,Value.nilFunc,
   Value.nilFunc,Value.int IntKind.u8 0,Value.int IntKind.i64 0,Value.nilFunc,Value.nilFunc]
  443)).setRow w1.heap.size formsA=w2 at *
 have HG:Hid (Blk w2 w1.heap.size 443 formsA):=Lib.hid BG
 have hlt2:=HG.out.lt
 have hz2:=hb2.size
 refine(indexF_any k c w1.heap.size w.heap.size w2 hk HG.out ((hb2.cell (p:=⟨w.heap.size,0,none⟩) hlt0).trans CB.out) H.out.no H.out.yes).mono ?_
 rintro e w3 ⟨rfl,hb3⟩
 have hz3:=hb3.size
 have G3:=HG.out.keep hb3
 obtain⟨x0,x1,x2,x3⟩:=formsA_at k hk
 have e0:=(G3.cell (k * 4)).trans x0
 have e1:=(G3.cell (k * 4+1)).trans x1
 have e2:=(G3.cell (k * 4+2)).trans x2
 have e3:=(G3.cell (k * 4+3)).trans x3
 unfold fnV at e2 e3
 rw[<-H.out.e] at e0
 rw[H.out.siz] at e1
 have T3:Hid (Blk w3 (w.heap.size+1) 336 #[.int .u8 0,.int .i64 0,Value.nilFunc,Value.nilFunc]):=(HT.out.below hb2 (by omega)).below hb3 (by omega)
 have hkn:decide ((k:Int)<0)=false:=decide_eq_false (by omega)
 clear BG G3 x0 x1 x2 x3 CB HT HG
 have hi4:(Tryz.prog.info? 336).map (·.size)=some 4:=by kernel_rfl
 obtain⟨pp,hpp⟩:∃pp,fPut k=pp:=⟨_,rfl⟩
 obtain⟨gg,hgg⟩:∃gg,fGet k=gg:=⟨_,rfl⟩
 rw[hpp] at e2
 rw[hgg] at e3
 have HPP:=Lib.hid hpp
 have HGG:=Lib.hid hgg
 clear hpp hgg
 go_wp2_with ((refine wpList_store_row rfl 336 (.tmp 2) (.tmp 15) rfl (w.heap.size+1) #[.int .u8 c,.int .i64 sz,.func (.func pp) #[] #[],.func (.func gg) #[] #[]] rfl rfl 336 _ T3.out hi4 rfl (by simp[Value.oneCell']) ?_))
 have B4:Blk (w3.setRow (w.heap.size+1) #[.int .u8 c,.int .i64 sz,.func (.func pp) #[] #[],.func (.func gg) #[] #[]]) (w.heap.size+1) 336 #[.int .u8 c,.int .i64 sz,.func (.func pp) #[] #[],.func (.func gg) #[] #[]]:=setRow_heap _ _ _ _ _ _ T3.out
 have hb4:Below w.heap.size w (w3.setRow (w.heap.size+1) #[.int .u8 c,.int .i64 sz,.func (.func pp) #[] #[],.func (.func gg) #[] #[]]):=by
  refine below_setRow ?_ (by omega) _
  exact((((((Below.refl _ _).alloc (Nat.le_refl _) _).alloc (by simp) _).trans (hb1.mono (by simp only[World.size_alloc];omega))).trans (hb2.mono (by omega))).trans (hb3.mono (by omega)))
 generalize w3.setRow (w.heap.size+1) #[.int .u8 c,.int .i64 sz,.func (.func pp) #[] #[],.func (.func gg) #[] #[]]=w4 at *
 have k0:=B4.cell 0
 have k1:=B4.cell 1
 have k2:=B4.cell 2
 have k3:=B4.cell 3
 simp only[List.getElem?_toArray,List.getElem?_cons_succ,List.getElem?_cons_zero] at k0 k1 k2 k3
 clear e0 e1 e2 e3 B4
 go_wp2_with fail
 refine bodyPost_ret (by simp[results,Tryz.results248,go_sem, *];try rfl) rfl ?_
 exact⟨by rw[HPP.out,HGG.out],hb4⟩
def bE:Lie Int where
 k:=1
 t:=5
 enc x:=[.int .u8 x]
 len _:=rfl
 one x u hu:=by
  simp only[List.mem_cons,List.not_mem_nil,or_false] at hu
  subst hu;rfl
theorem bI:(Tryz.prog.info? 5).map (fun i=>(i.zero,i.size,i.bytes))=some (some (.int .u8 0),1,1):=by kernel_rfl
theorem tyB:Ty Tryz.prog bE 22:=ty_of bI Tryz.underlying22 rfl (by decide) (by decide)
theorem cells_b:∀l:List Int,cellsE bE l=l.map (Value.int .u8)
 | []=>rfl
 | x::l=>by rw[cellsE_cons,cells_b l];rfl
theorem ownB_E{base:Nat}{w:World}{v:Value}{l:List Int}:OwnB base w v l<->OwnE bE base w v l:=by
 unfold OwnB OwnI OwnE
 rw[cells_b];rfl
theorem beN_at:∀(K:Nat) (n:Int) (j:Nat),j<K->(beN K n)[j]?=some (n / 2 ^ (8 * (K - 1 - j)) % 256)
 | K+1,n,j,h=>by
  rw[beN]
  rcases Nat.lt_or_ge j K with hj|hj
  ·rw[List.getElem?_append_left (by rw[beN_len];exact hj),beN_at K _ j hj,Int.ediv_ediv_of_nonneg (by omega)]
   have e:(256:Int) * 2 ^ (8 * (K - 1 - j))=2 ^ (8 * (K+1 - 1 - j)):=by
    rw[show K+1 - 1 - j=K - 1 - j+1 by omega,Nat.mul_add,Int.pow_add,Int.mul_comm];rfl
   rw[e]
  ·obtain rfl:j=K:=by omega
   rw[List.getElem?_append_right (by rw[beN_len];exact Nat.le_refl _),beN_len]
   simp
theorem whigh_any(g base K:Nat)(n:Int)(bs:List Int)(w:World)(h:Wr 332 base w g bs)(n0:0<=n)(n1:n<18446744073709551616)(hK:K<=8)(hl:bs.length<=1000000000000) :
 Calls Tryz.prog 414 #[.pointer (some ⟨g,0,none⟩),.int .u64 n,.int .i64 K] w fun e w'=>e=.returned (.tuple #[])/\Wr 332 base w' g (bs++beN K n)/\Below base w w':=by
 have H:=Lib.hid h
 have hlt:=h.lt
 clear h
 have EK:Hid (IntKind.i64.wrap ((K:Int) - 1)=(K:Int) - 1):=Lib.hid (by rw[IntKind.wrap_i64];omega)
 have ek:=EK.out
 go_enter Tryz.func414,Tryz.ntmps414
 go_wp2_with fail
 go_loopg [6] K (fun q i wr=>∃j:Nat,q=K - j/\j<=K/\i=.int .i64 ((K:Int) - 1 - j)/\Hid (Wr 332 base wr g (bs++(beN K n).take j))/\Below base w wr)
 case atStart=>exact⟨0,rfl,by omega,by simp,by rw[List.take_zero,List.append_nil];exact H,Below.refl _ _⟩
 case round=>
  obtain⟨j,hq,hj,rfl,hw,hb⟩:=hrel
  have HQ:=Lib.hid hq
  have hz:=hb.size
  clear hq ek
  by_cases hlj:j<K
  ·obtain⟨i,hi⟩:∃i,K - 1 - j=i:=⟨_,rfl⟩
   have hiI:(K:Int) - 1 - j=(i:Int):=by omega
   rw[hiI]
   have hi0:(0:Int)<=(i:Int):=by omega
   obtain⟨s,hs⟩:∃s,8 * i=s:=⟨_,rfl⟩
   have hs64:s<64:=by omega
   have ES:Hid (IntKind.i64.wrap (8 * (i:Int))=(s:Int)):=Lib.hid (by rw[IntKind.wrap_i64];omega)
   have EI:Hid (IntKind.i64.wrap ((i:Int) - 1)=(i:Int) - 1):=Lib.hid (by rw[IntKind.wrap_i64];omega)
   have hbyte:(beN K n)[j]?=some (n / 2 ^ s % 256):=by rw[beN_at K n j hlj,hi,hs]
   have eb:IntKind.u8.wrap (n / 2 ^ s)=n / 2 ^ s % 256:=rfl
   obtain⟨y,hy⟩:∃y,n / 2 ^ s % 256=y:=⟨_,rfl⟩
   rw[hy] at hbyte eb
   have HBT:Hid ((beN K n).take (j+1)=(beN K n).take j++[y]):=Lib.hid (by rw[List.take_add_one,hbyte];rfl)
   clear hy
   obtain⟨hbg,v,hB,hO⟩:=hw.out
   have HB:=Lib.hid hB
   have HO:=Lib.hid hO
   have hlen:(bs++(beN K n).take j).length+1<=1099511627776:=by
    have h1:=beN_len K n
    rw[List.length_append,List.length_take];omega
   clear hB hO hs hi hbyte
   have hsI:(s:Int)<64:=by omega
   have Bd:Blk wr.drew g 332 #[v]:=HB.out.drew
   generalize (beN K n).take j=T at *
   obtain⟨A0,k0,hv0,_,_,_⟩:=(OwnI.rd HO.out).form
   obtain⟨N0,hN0⟩:∃N,(bs++T).length=N:=⟨_,rfl⟩
   rw[hN0] at hv0
   subst hv0
   have HN0:=Lib.hid hN0
   clear hN0
   have HBa:Hid (Blk (wr.alloc (.cells #[.int .u8 y] 5)).drew g 332 #[.slice A0 N0 k0]):=Lib.hid (HB.out.alloc _).drew
   have HOa:Hid (OwnE bE base (wr.alloc (.cells #[.int .u8 y] 5)).drew (.slice A0 N0 k0) (bs++T)):=Lib.hid (OwnE.alloc (ownB_E.1 HO.out) _).drew
   have hba:Below base w (wr.alloc (.cells #[.int .u8 y] 5)).drew:=(hb.alloc (by omega) _).drew
   go_upto_region 3 with fail
   refine wp_region_planT (fun w'=>Blk w' g 332 #[.slice A0 N0 k0]) 12 [(0,true),(1,true),(2,true),(3,true),(4,true),(5,true),(6,true),(7,true),(8,true),(9,true),(10,false),(11,false)] (by kernel_rfl) (by kernel_rfl) (Bd) ?_
   iterate 10
    refine wpPlanT_read (by rfl) (by rfl) (fun R hR=>?_)
    apply Exists.intro
    refine⟨fun w' hS'=>?_,?_⟩
    ·have c0:=Blk.cell hS' 0
     simp only[List.getElem?_toArray,List.getElem?_cons_zero] at c0
     have es:=ES.out
     go_simp
     exact⟨rfl,rfl⟩
    go_simp
    refine hR _ ?_
    clear hR R
   refine wpPlanT_do (by rfl) (by rfl) (fun K hK=>?_)
   go_simp
   refine hK _ _ (Bd.alloc _) ?_
   clear hK K
   refine wpPlanT_do (by rfl) (by rfl) (fun K hK=>?_)
   refine apW tyB (.tmp 17) (.tmp 23) rfl HOa.out rfl _ [y] rfl (OwnE.one (E:=bE) wr.drew y _ rfl _ rfl).rd hlen (by go_size) ?_
   intro v1 w1 o1 g1 _
   have B1:=blk_grown HBa.out HOa.out (by decide) g1
   have hb1:Below base w w1:=hba.grown g1 (by have:=hba.size;omega) (fun k hk=>(OwnE.lt HOa.out k hk).1)
   have P1:=Lib.hid (put_back (i:=0) HBa.out HOa.out (by decide) g1 o1)
   obtain⟨A1,c1,ev1,_,_,_⟩:=o1.form
   obtain⟨N1,hN1⟩:∃N,(bs++T++[y]).length=N:=⟨_,rfl⟩
   rw[hN1] at ev1
   subst ev1
   clear hN1 o1 g1
   refine hK _ _ (B1) ?_
   clear hK K
   refine wpPlanT_nil ?_
   simp only[List.drop_succ_cons,List.drop_zero]
   have c0:=B1.cell 0
   have f0:=B1.frozen 0
   simp only[List.getElem?_toArray,List.getElem?_cons_zero] at c0
   go_wp2_with fail
   refine calm_normal ?_
   have ei:=EI.out
   go_wp2_with fail
   go_roundg (K - (j+1))
   case measure=>have:=HQ.out;omega
   case rel=>
    refine⟨j+1,rfl,by omega,?_,?_,hb1.setCell (by omega) _⟩
    ·congr 1;omega
    ·rw[HBT.out,<-List.append_assoc]
     exact Lib.hid ⟨hbg,_,P1.out.1,ownB_E.2 P1.out.2⟩
  ·obtain rfl:j=K:=by omega
   have e1:((j:Int) - 1 - j)=-1:=by omega
   rw[e1]
   have hw9:=hw
   rw[List.take_of_length_le (by rw[beN_len];exact Nat.le_refl _)] at hw9
   go_wp2_with fail
   refine bodyPost_end (v:=.tuple #[]) (by simp[results,Tryz.results414,go_sem, *];try rfl) rfl ?_
   exact⟨rfl,hw9.out,hb⟩
open Go.RowKit Go.Lib
open Go.RowKit Go.Lib
open Go.RowKit Go.Maps
theorem mapU:Tryz.prog.underlying 239=some (.map 3 53):=by kernel_rfl
theorem intU:Tryz.prog.underlying 3=some (.int .i64):=by kernel_rfl
theorem u64U:Tryz.prog.underlying 53=some (.int .u64):=by kernel_rfl
theorem keyI:Keyed Tryz.prog 3:=int_keyed intU
theorem zeroU(w:World):(zeroValue 53).run Tryz.prog w=.ok (.int .u64 0) w:=by kernel_rfl
def CtAt(w:World)(b:Nat)(l:List Pr):Prop:=∃D,w.ownsMap Tryz.prog 3 (plainElem (H:=Unit) Tryz.prog 53) b l.length D/\LkD D l
section
variable {w w' : World} {b : Nat} {l : List Pr}
theorem CtAt.stay(h:CtAt w b l)(hk:w'.heap[b]?=w.heap[b]?):CtAt w' b l:=by
 obtain⟨D,⟨es,clock,hb,r⟩,hD⟩:=h
 exact⟨D,⟨es,clock,hk.trans hb,r⟩,hD⟩
theorem CtAt.lt(h:CtAt w b l):b<w.heap.size:=by
 obtain⟨D,h,_⟩:=h;exact h.lt
theorem CtAt.keep(h:CtAt w b l)(hb:Below w.heap.size w w'):CtAt w' b l:=h.stay (hb.block b h.lt)
theorem ct_new(w:World):CtAt (w.alloc (.map #[] 0)) w.heap.size []:=⟨_,World.ownsMap_made w _ _ _,lk_nil⟩
theorem CtAt.ne(h:CtAt w b l){g:Nat}{T:TypeId}{cs:Array Value}(hB:Blk w g T cs):b≠g:=by
 rintro rfl
 obtain⟨D,⟨es,clock,hb,_⟩,_⟩:=h
 unfold Blk at hB
 rw[hb] at hB;cases hB
theorem ct_tight{n:Nat}{D:DataW Unit}(h:w.ownsMap Tryz.prog 3 (plainElem (H:=Unit) Tryz.prog 53) b n D)(hD:LkD D l):CtAt w b l:=by
 obtain⟨es,clock,hb,F,_,e⟩:=h
 refine⟨D,⟨es,clock,hb,F,?_,e⟩,hD⟩
 have h1:=hD.sz
 rw[e] at h1
 rw[<-h1]
 show es.size<=List.length _
 rw[length_read];exact Nat.le_refl _
theorem key_of{k:Int}(k0:-9223372036854775808<=k)(k1:k<=9223372036854775807):keyOf Tryz.prog 3 (.int .i64 k)=some (iL k):=keyOf_int_mk intU (WalkArith.wf_i64 ⟨k0,k1⟩)
theorem CtAt.look(h:CtAt w b l){k:Int}(k0:-9223372036854775808<=k)(k1:k<=9223372036854775807):(Instr.lookup 239 (.map (some b)) (.int .i64 k) false).run Tryz.prog w=.ok (.int .u64 (cnP l k)) w:=by
 obtain⟨D,h,hD⟩:=h
 obtain⟨c,hr,hat,_⟩:=h.lookup_int keyI mapU u64U (zeroU w) (key_of k0 k1)
 rw[hD.get k] at hat
 cases hat
 exact hr
theorem CtAt.upd(h:CtAt w b l)(s:SrtP l)(hp:PosP l)(hl:l.length<=1000000000){k n:Int}(k0:-9223372036854775808<=k)(k1:k<=9223372036854775807)(n0:0<n)(n1:cnP l k+n<=18446744073709551615) :
 ∃w',(Instr.mapUpdate 239 (.map (some b)) (.int .i64 k) (.int .u64 (cnP l k+n))).run Tryz.prog w=.ok () w'/\CtAt w' b (putP k n l)/\w.grownBy w' (some b):=by
 obtain⟨D,h,hD⟩:=h
 have hc:=cn_nonneg (k:=k) hp
 obtain⟨w',h1,h2,h3⟩:=h.update keyI mapU (by unfold maxLen;omega) (key_of k0 k1) (plainElem_int u64U (WalkArith.wf_u64 ⟨by omega,n1⟩))
 exact⟨w',h1,ct_tight h2 (hD.put s hp k n n0),h3⟩
theorem touch_map{F:Ft}(hF:F b)(hg:w.grownBy w' (some b)):Touch F w w':=⟨hg.os,hg.tape,hg.output,hg.size,fun k hk hn=>hg.block k hk (fun e=>by cases e;exact hn hF)⟩
theorem upL{ops:Array Oper}{rest:List Oper}{o:Oper}{a:Act}{Q:Exit->Act->World->Prop}(hgd:o.guard=none)(m x v:Operand)(hop:o.op=Op.mapUpdate 239 m x v)
 (h:CtAt w b l) (s:SrtP l) (hp:PosP l) (hl:l.length<=1000000000) {k n:Int} (k0:-9223372036854775808<=k) (k1:k<=9223372036854775807) (n0:0<n) (n1:cnP l k+n<=18446744073709551615)
 (hm:a.eval m=.map (some b)) (hx:a.eval x=.int .i64 k) (hv:a.eval v=.int .u64 (cnP l k+n))
 (hK:∀w',CtAt w' b (putP k n l)->w.grownBy w' (some b)->wpList Tryz.prog ops Q rest (a.put o.dst undef) w'):wpList Tryz.prog ops Q (o::rest) a w:=by
 refine wpList_plain hgd fun K' hK'=>?_
 obtain⟨w',hrun,r1,r2⟩:=h.upd s hp hl k0 k1 n0 n1
 unfold Oper.wp
 simp[execOp,hop,hm,hx,hv,hrun,Result.andThen]
 exact hK' _ _ (hK w' r1 r2)
end
open Go.RowKit Go.Lib Go.Shelf
section
variable {g u m : Nat} {lo hi dg : Int} {w : World}
theorem mtop_any(n:Nat)(h:MpAt w g lo hi dg u m)(hu:u+m<=62)(n0:1<=n)(n1:n<=64):Calls Tryz.prog 313 #[.pointer (some ⟨g,0,none⟩),.int .i64 n] w fun e w'=>e=.returned (.int .i64 (topN u m n))/\Below w.heap.size w w':=by
 have HT:Hid (topN u m n=if 63<=n - 1+u+m then 9223372036854775807 else 2 ^ (n - 1+u+m) - 1):=Lib.hid rfl
 rw[HT.out]
 obtain⟨k,rfl⟩:∃k,n=k+1:=⟨n - 1,by omega⟩
 simp only[Nat.add_sub_cancel] at HT |-
 obtain⟨t,ht⟩:∃t,k+u=t:=⟨_,rfl⟩
 obtain⟨s,hs⟩:∃s,k+u+m=s:=⟨_,rfl⟩
 have e1:IntKind.i64.wrap ((k:Int)+(u:Int))=(t:Int):=by rw[IntKind.wrap_i64];omega
 have e2:IntKind.i64.wrap ((t:Int)+(m:Int))=(s:Int):=by rw[IntKind.wrap_i64];omega
 have ek:IntKind.i64.wrap (k:Int)=(k:Int):=by rw[IntKind.wrap_i64];omega
 have em:max ((k:Int)+1) 1=(k:Int)+1:=by omega
 have em2:min ((k:Int)+1) 64=(k:Int)+1:=by omega
 rw[hs]
 have k3:=Blk.cell h 3
 have k4:=Blk.cell h 4
 simp only[List.getElem?_toArray,List.getElem?_cons_zero,List.getElem?_cons_succ] at k3 k4
 by_cases h63:63<=s
 ·have hge:(63:Int)<=(s:Int):=by omega
  rw[if_pos h63]
  clear HT ht hs h
  go_enter Tryz.func313,Tryz.ntmps313
  go_upto_region 2 with fail
  go_quiet (fail)
  go_wp2_with fail
  go_ret
  exact⟨by simp,below_drewN (Below.refl _ _) _⟩
 ·have hge:¬(63:Int)<=(s:Int):=by omega
  rw[if_neg h63]
  have hp:2 ^ s<=4611686018427387904:=(two_le (by omega):2 ^ s<=2 ^ 62)
  have h0:=Nat.two_pow_pos s
  have hp':=hp
  obtain⟨P,hP⟩:∃P,2 ^ s=P:=⟨_,rfl⟩
  have hPI:((2:Int) ^ s)=(P:Int):=by rw[<-hP];simp
  rw[hP] at h0 hp' |-
  have eP1:IntKind.i64.wrap ((P:Int) - 1)=(P:Int) - 1:=by rw[IntKind.wrap_i64];omega
  have efin:(((P - 1:Nat)):Int)=(P:Int) - 1:=by omega
  have eP:wrap64 (P:Int)=(P:Int):=by clear e1 e2 ek em em2 eP1 efin hge;unfold wrap64;omega
  rw[efin]
  clear HT ht hs hp efin hP
  go_enter Tryz.func313,Tryz.ntmps313
  go_upto_region 2 with fail
  go_quiet (fail)
  obtain⟨w2,hw2⟩:∃x,w.drewN nq=x:=⟨_,rfl⟩
  have B2:Below w.heap.size w w2:=by rw[<-hw2];exact below_drewN (Below.refl _ _) _
  have k3':w2.cell? ⟨g,3,none⟩=some (.int .i64 u):=by rw[<-hw2];exact k3
  have k4':w2.cell? ⟨g,4,none⟩=some (.int .i64 m):=by rw[<-hw2];exact k4
  rw[hw2]
  clear hw2 k3 k4
  have k3:=k3'
  have k4:=k4'
  have hg2:g<w2.heap.size:=by have:=Blk.lt h;have:=B2.size;omega
  clear k3 k4
  have HI:=Lib.hid (And.intro hPI (And.intro eP eP1))
  clear hPI eP eP1
  go_upto_region 4 with fail
  refine wp_region_plan (Below w2.heap.size w2) [(0,true),(1,true),(2,true),(3,true),(4,true),(5,true),(6,true),(7,true),(8,true),(9,true),(10,true),(11,true),(12,true),(13,true),(14,true)] (by kernel_rfl) (by kernel_rfl) ((Below.refl _ _).drew) ?_
  iterate 15
   refine wpPlan_read (by rfl) (by rfl) (fun R hR=>?_)
   apply Exists.intro
   refine⟨fun w' hS'=>?_,?_⟩
   ·have k3:=(hS'.cell (p:=⟨g,3,none⟩) hg2).trans k3'
    have k4:=(hS'.cell (p:=⟨g,4,none⟩) hg2).trans k4'
    obtain⟨i1,i2,i3⟩:=HI.out
    go_simp
    exact⟨rfl,rfl⟩
   go_simp
   refine hR _ ?_
   clear hR R
  refine wpPlan_nil ?_
  go_wp2_with fail
  go_ret
  have i0:IntKind.i64.wrap (P:Int)=(P:Int):=(IntKind.wrap_i64 _).trans (by omega)
  refine⟨?_,B2.drew⟩
  show Ending.returned (Value.int .i64 (IntKind.i64.wrap (IntKind.i64.wrap (P:Int) - 1)))=Ending.returned (Value.int .i64 ((P:Int) - 1))
  rw[i0,HI.out.2.2]
end
open Go.RowKit Go.Lib Go.Shelf
section
variable {g u m : Nat} {lo hi dg : Int} {w : World}
theorem mshape_any(h:MpAt w g lo hi dg u m):Calls Tryz.prog 161 #[.pointer (some ⟨g,0,none⟩)] w fun e w'=>e=.returned (.agg #[.int .i64 lo,.int .i64 hi,.int .i64 dg])/\Below w.heap.size w w':=by
 obtain⟨b,hbb⟩:∃b,w.heap.size=b:=⟨_,rfl⟩
 obtain⟨w1,hw1⟩:∃w1,w.alloc (.cells #[.int .i64 0,.int .i64 0,.int .i64 0] 32)=w1:=⟨_,rfl⟩
 have hb1:Below w.heap.size w w1:=by rw[<-hw1];(repeat' (first|(with_reducible exact Below.refl _ _)|(with_reducible refine Below.alloc ?_ ?_ _)|(with_reducible refine Below.drew ?_)|(with_reducible refine below_drewN ?_ _)|(with_reducible refine Below.setCell ?_ ?_ _)|(with_reducible refine below_of (by assumption) ?_ ?_)|go_size))
 have B1:Blk w1 b 32 #[.int .i64 0,.int .i64 0,.int .i64 0]:=by rw[<-hw1,<-hbb];exact Blk.new _ _ _
 have M1:=Blk.keep h hb1
 have k0:=Blk.cell M1 0
 have k1:=Blk.cell M1 1
 have k2:=Blk.cell M1 2
 have f0:=B1.frozen 0
 have f1:=B1.frozen 1
 have f2:=B1.frozen 2
 have j0:=B1.cell 0
 have j1:=B1.cell 1
 have j2:=B1.cell 2
 simp only[List.getElem?_toArray,List.getElem?_cons_zero,List.getElem?_cons_succ] at k0 k1 k2 j0 j1 j2
 have X:=Lib.hid (And.intro hb1 (And.intro B1 hbb))
 clear h M1 B1 hb1
 go_enter Tryz.func161,Tryz.ntmps161
 go_upto_region 1 with fail
 clear hw1 hbb
 go_wp2_with fail
 have hlt:=X.out.2.1.lt
 have c0:=(((X.out.2.1.set_ 0 (.int .i64 lo)).set_ 1 (.int .i64 hi)).set_ 2 (.int .i64 dg)).cell 0
 have c1:=(((X.out.2.1.set_ 0 (.int .i64 lo)).set_ 1 (.int .i64 hi)).set_ 2 (.int .i64 dg)).cell 1
 have c2:=(((X.out.2.1.set_ 0 (.int .i64 lo)).set_ 1 (.int .i64 hi)).set_ 2 (.int .i64 dg)).cell 2
 simp only[List.setIfInBounds_toArray,List.set_cons_zero,List.set_cons_succ,List.getElem?_toArray,List.getElem?_cons_zero,List.getElem?_cons_succ] at c0 c1 c2
 refine bodyPost_ret (by simp[results,Tryz.results161,go_sem, *];try rfl) rfl ?_
 have hbb:=X.out.2.2
 exact⟨rfl,((X.out.1.setCell (p:=⟨b,0,none⟩) (by show _<=b;omega) _).setCell (p:=⟨b,1,none⟩) (by show _<=b;omega) _).setCell (p:=⟨b,2,none⟩) (by show _<=b;omega) _⟩
end
end Go.Proofs.YtkiebccnpheloaaGreat.D
