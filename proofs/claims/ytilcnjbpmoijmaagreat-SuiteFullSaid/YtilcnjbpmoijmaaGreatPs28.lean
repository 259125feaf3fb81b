/- Parts of a proof: what its theorem reaches, words cut short. No condition of its own. -/
import Derived.Test.YtilcnjbpmoijmaaGreatPs26
import Derived.Test.YtilcnjbpmoijmaaGreatPs27
import Derived.Lib.AppendZerosOnto
set_option maxRecDepth 100000
set_option maxHeartbeats 16000000
set_option linter.unusedVariables false
set_option linter.unusedSimpArgs false
namespace Go.Proofs.YtilcnjbpmoijmaaGreat.K
open Go.RowKit
theorem minF_spec(p:Int->Bool):∀(l:List Int) (o:Option Int),(∀z,o=some z->p z=true) ->
 (∀y,l.foldl (pickO p) o=some y->p y=true/\(y∈l\/o=some y)/\(∀x∈l,p x=true->y<=x)/\(∀z,o=some z->y<=z))/\(l.foldl (pickO p) o=none->o=none/\∀x∈l,p x=false)
 | [],o,ho=>⟨fun y hy=>⟨ho y hy,.inr hy,fun x hx=>absurd hx (by simp),fun z hz=>by
  have hy:o=some y:=hy
  rw[hz] at hy;injection hy with hy;omega⟩,fun h=>⟨h,fun x hx=>absurd hx (by simp)⟩⟩
 | x::l,o,ho=>by
  have ho':∀z,pickO p o x=some z->p z=true:=fun z hz=>by
   unfold pickO at hz
   by_cases hx:p x=true
   ·rw[if_pos hx] at hz
    cases o with
    | none=>simp only[addO] at hz;injection hz with hz;rw[<-hz];exact hx
    | some y=>
     simp only[addO] at hz
     split at hz
     ·injection hz with hz;rw[<-hz];exact hx
     ·exact ho z hz
   ·rw[if_neg hx] at hz;exact ho z hz
  have ih:=minF_spec p l (pickO p o x) ho'
  rw[List.foldl_cons]
  refine⟨fun y hy=>?_,fun h=>?_⟩
  ·obtain⟨h1,h2,h3,h4⟩:=ih.1 y hy
   unfold pickO at h2 h4
   by_cases hx:p x=true
   ·rw[if_pos hx] at h2 h4
    cases o with
    | none=>
     simp only[addO] at h2 h4
     have h5:=h4 x rfl
     refine⟨h1,?_,fun z hz hpz=>?_,fun z hz=>by cases hz⟩
     ·rcases h2 with h2|h2
      ·exact .inl (List.mem_cons_of_mem _ h2)
      ·injection h2 with h2;exact .inl (by rw[h2];exact List.mem_cons_self ..)
     ·rcases List.mem_cons.1 hz with rfl|hz
      ·exact h5
      ·exact h3 z hz hpz
    | some u=>
     simp only[addO] at h2 h4
     by_cases hxu:x<u
     ·rw[if_pos hxu] at h2 h4
      have h5:=h4 x rfl
      refine⟨h1,?_,fun z hz hpz=>?_,fun z hz=>?_⟩
      ·rcases h2 with h2|h2
       ·exact .inl (List.mem_cons_of_mem _ h2)
       ·injection h2 with h2;exact .inl (by rw[h2];exact List.mem_cons_self ..)
      ·rcases List.mem_cons.1 hz with rfl|hz
       ·exact h5
       ·exact h3 z hz hpz
      ·injection hz with hz;omega
     ·rw[if_neg hxu] at h2 h4
      have h5:=h4 u rfl
      refine⟨h1,?_,fun z hz hpz=>?_,fun z hz=>?_⟩
      ·rcases h2 with h2|h2
       ·exact .inl (List.mem_cons_of_mem _ h2)
       ·exact .inr h2
      ·rcases List.mem_cons.1 hz with rfl|hz
       ·omega
       ·exact h3 z hz hpz
      ·injection hz with hz;omega
   ·rw[if_neg hx] at h2 h4
    refine⟨h1,?_,fun z hz hpz=>?_,h4⟩
    ·rcases h2 with h2|h2
     ·exact .inl (List.mem_cons_of_mem _ h2)
     ·exact .inr h2
    ·rcases List.mem_cons.1 hz with rfl|hz
     ·exact absurd hpz hx
     ·exact h3 z hz hpz
  ·obtain⟨h1,h2⟩:=ih.2 h
   unfold pickO at h1
   by_cases hx:p x=true
   ·rw[if_pos hx] at h1
    cases o with
    | none=>simp only[addO] at h1;cases h1
    | some u=>simp only[addO] at h1;split at h1<;>cases h1
   ·rw[if_neg hx] at h1
    refine⟨h1,fun z hz=>?_⟩
    rcases List.mem_cons.1 hz with rfl|hz
    ·simpa using hx
    ·exact h2 z hz
structure IsAt(L:LL)(r:Nat)(y:Int):Prop where
 mem:y∈allV L
 up:r<=uptoL L y
 least:∀x∈allV L,r<=uptoL L x->y<=x
theorem atV_is{L:LL}{r:Nat}{y:Int}(h:IsAt L r y):atV L r=y:=by
 have hs:=minF_spec (fun x=>decide (r<=uptoL L x)) (allV L) none (fun z hz=>by cases hz)
 unfold atV
 cases e:minP (fun x=>decide (r<=uptoL L x)) (allV L) with
 | none=>
  have:=(hs.2 e).2 y h.mem
  simp only[decide_eq_false_iff_not] at this
  exact absurd h.up this
 | some z=>
  obtain⟨h1,h2,h3,_⟩:=hs.1 z e
  simp only[decide_eq_true_eq] at h1 h3
  have h4:=h3 y h.mem h.up
  have h5:z∈allV L:=by
   rcases h2 with h2|h2
   ·exact h2
   ·cases h2
  have:=h.least z h5 h1
  show z=y
  omega
theorem cF_mono{p q:Int->Bool}(h:∀x,p x=true->q x=true):∀(w:Nat) (L:LL),cF p w L<=cF q w L
 | w,[]=>Nat.le_refl _
 | w,l::L=>by
  rw[cF,cF]
  have h1:=cF_mono h (2 * w) L
  have h2:l.countP p<=l.countP q:=List.countP_mono_left fun x _ hx=>h x hx
  have:=Nat.mul_le_mul_right w h2
  omega
theorem uptoL_mono(L:LL){x y:Int}(h:x<=y):uptoL L x<=uptoL L y:=cF_mono (fun z hz=>by simp only[decide_eq_true_eq] at *;omega) 1 L
theorem cF_all{p:Int->Bool}:∀(w:Nat) (L:LL),(∀x∈allV L,p x=true)->cF p w L=wtF w L
 | w,[],_=>rfl
 | w,l::L,h=>by
  rw[cF,wtF,cF_all (2 * w) L fun x hx=>h x (by unfold allV at *;rw[List.flatten_cons];exact List.mem_append_right _ hx)]
  have:l.countP p=l.length:=List.countP_eq_length.2 fun x hx=>h x (by unfold allV;rw[List.flatten_cons];exact List.mem_append_left _ hx)
  rw[this]
theorem uptoL_all{L:LL}{y:Int}(h:∀x∈allV L,x<=y):uptoL L y=wt L:=cF_all 1 L fun x hx=>decide_eq_true (h x hx)
theorem allV_length(L:LL):(allV L).length=cnt L:=by unfold allV cnt;rw[List.length_flatten]
theorem wtF_pos:∀(w:Nat) (L:LL),allV L=[]->wtF w L=0
 | w,[],_=>rfl
 | w,l::L,h=>by
  unfold allV at h
  rw[List.flatten_cons,List.append_eq_nil_iff] at h
  rw[wtF,h.1,wtF_pos (2 * w) L h.2];simp
theorem grow_i64(n:Nat)(w:World)(hn:n<=1099511627776) :
 Calls Tryz.prog 431 #[.slice none 0 0,.int .i64 n] w fun e w'=>∃v,e=.returned v/\OwnE i64E w.heap.size w' v []/\Below w.heap.size w w':=by
 obtain⟨i0,hi,hz0,hz1,hz2⟩:=info_parts i64I
 by_cases h0:n=0
 ·subst h0
  go_enter Tryz.func431,Tryz.ntmps431
  go_wp2_with fail
  go_ret
  exact⟨_,rfl,OwnE.nil_ _ _,by(repeat' (first|(with_reducible exact Below.refl _ _)|(with_reducible refine Below.alloc ?_ ?_ _)|(with_reducible refine Below.drew ?_)|(with_reducible refine below_drewN ?_ _)|(with_reducible refine Below.setCell ?_ ?_ _)|(with_reducible refine below_of (by assumption) ?_ ?_)|go_size))⟩
 ·have hold:(Builtin.firstCells i0.size 0 (.slice none 0 0)).run Tryz.prog w.drew=.ok #[] w.drew:=run_firstCells_none w.drew i0.size 0 0 0
  have hrz:∀ty,(Builtin.append_ #[182,3] ty #[.slice none 0 0,.int .i64 (n:Int)]).run Tryz.prog w =
   .ok (.slice (some ⟨w.heap.size,0,none⟩) n (grownCap w n 0 2)) (w.drew.alloc (.cells (([]:List Value).toArray++Builtin.zeroCells (Value.int .i64 0).cells n++Builtin.zeroCells (Value.int .i64 0).cells (grownCap w n 0 2 - n)) 2)):=fun ty=>by
   have h:=Lib.run_append_grow_zeros w 182 3 ty 2 i0 _ .i64 .i64 Tryz.underlying182 Tryz.underlying3 hi hz0 none 0 0 [] hold n (by omega) (by omega) (by omega) (by omega) (by rw[hz2];omega) (growslice_fits (by omega) (by rw[hz2];omega))
   simpa using h
  have hGn:n<=grownCap w n 0 2:=grownCap_ge w _ _ _
  have hG63:grownCap w n 0 2<=maxLen:=grownCap_le_maxLen w n 0 2 (by unfold maxLen;omega)
  obtain⟨G,hG⟩:∃G,grownCap w n 0 2=G:=⟨_,rfl⟩
  rw[hG] at hrz hGn hG63
  obtain⟨Z,hZ⟩:∃Z:Array Value,(([]:List Value).toArray++Builtin.zeroCells (Value.int .i64 0).cells n++Builtin.zeroCells (Value.int .i64 0).cells (G - n))=Z:=⟨_,rfl⟩
  rw[hZ] at hrz
  have hZs:Z.size=G * 1:=by
   rw[<-hZ,Array.size_append,Array.size_append,size_zeroCells,size_zeroCells]
   simp only[Value.cells,List.size_toArray,List.length_cons,List.length_nil]
   omega
  have HZ:=Lib.hid hZs
  have HG:=Lib.hid hG63
  have hG':G<=9223372036854775807:=by unfold maxLen at hG63;omega
  clear hZ hZs hG hold hi hz0 hz1 hz2 hG63
  go_enter Tryz.func431,Tryz.ntmps431
  go_wp2_with (at_builtin;refine Lib.wpList_append_run _ rfl _ _ _ _ rfl _ _ rfl rfl _ _ (hrz _) ?_)
  go_ret
  refine⟨_,rfl,?_,by(repeat' (first|(with_reducible exact Below.refl _ _)|(with_reducible refine Below.alloc ?_ ?_ _)|(with_reducible refine Below.drew ?_)|(with_reducible refine below_drewN ?_ _)|(with_reducible refine Below.setCell ?_ ?_ _)|(with_reducible refine below_of (by assumption) ?_ ?_)|go_size))⟩
  exact⟨by simp[cellsE],.inr ⟨w.heap.size,G,Z,rfl,Nat.le_refl _,heap_alloc_new _ _,Nat.zero_le _,HG.out,HZ.out,by simp[cellsE]⟩⟩
theorem flat_succ{L:LL}{i:Nat}(h:i<L.length):(L.take (i+1)).flatten=(L.take i).flatten++lvl L i:=by
 rw[List.take_succ_eq_append_getElem h,List.flatten_append,lvl_at h];simp
theorem flat_le(L:LL)(i:Nat):(L.take i).flatten.length<=cnt L:=by
 rw[<-allV_length]
 unfold allV
 have h:L.flatten=(L.take i).flatten++(L.drop i).flatten:=by rw[<-List.flatten_append,List.take_append_drop]
 rw[h,List.length_append];omega
theorem concat_i64(v:Value)(L:LL)(w:World)(h:LLR w v L)(hL:L.length<=1000)(hlen:cnt L<=1000000000) :
 Calls Tryz.prog 383 #[v] w fun e w'=>∃v,e=.returned v/\OwnE i64E w.heap.size w' v (allV L)/\Below w.heap.size w w':=by
 obtain⟨i0,hi0,hiz,his,hib⟩:=info_parts i64I
 have HI:=Lib.hid hi0
 have HZ0:=Lib.hid hiz
 have HSZ:=Lib.hid his
 have HBY:=Lib.hid hib
 clear hi0 hiz his hib
 obtain⟨A,c,rfl,hc1,hc2⟩:=h.form
 have H:=Lib.hid h
 clear h
 go_enter Tryz.func383,Tryz.ntmps383
 go_wp2_with fail
 go_loopg [3,5,11] L.length (fun q sz _ i wr=>(∃j z:Nat,q=L.length - j/\j<=L.length/\i=.int .i64 (j:Int)/\sz=.int .i64 (z:Int)/\Hid ((L.take j).flatten.length=z))/\w=wr)
 case atStart=>exact⟨⟨0,0,rfl,by omega,rfl,rfl,rfl⟩,rfl⟩
 case round=>
  obtain⟨⟨j,z,hk,hj,rfl,rfl,HZ⟩,rfl⟩:=hrel
  have HK:=Lib.hid hk
  clear hk
  have hz0:z<=1000000000:=by have:=flat_le L j;have:=HZ.out;omega
  by_cases hlt:j<L.length
  ·obtain⟨gl,off,sA,sc,eA,hgl,c2,r0⟩:=H.out.at_ hlt
   subst eA
   have HT:Hid ((L.take (j+1)).flatten.length=z+(lvl L j).length):=Lib.hid (by rw[flat_succ hlt,List.length_append,HZ.out])
   have ht:z+(lvl L j).length<=1000000000:=by have:=flat_le L (j+1);have:=HT.out;omega
   obtain⟨x,hx⟩:∃x,(lvl L j).length=x:=⟨_,rfl⟩
   rw[hx] at c2 HT ht
   clear r0 hx
   go_wp2_with fail
   go_roundg (L.length - (j+1))
   case measure=>have:=HK.out;omega
   case rel=>exact⟨⟨j+1,z+x,rfl,by omega,by go_num,by go_num,HT⟩,rfl⟩
  ·have hjL:j=L.length:=by omega
   clear HK
   go_wp2_with fail
   refine(grow_i64 z w (by omega)).mono ?_
   rintro e w1 ⟨v1,rfl,o1,hb1⟩
   have O1:=Lib.hid o1
   have HB1:=Lib.hid hb1
   clear o1 hb1
   go_wp2_with fail
   go_loopg [6,8,27] L.length (fun q ns _ i wx=>∃k:Nat,q=L.length - k/\k<=L.length/\i=.int .i64 (k:Int)/\Hid (OwnE i64E w.heap.size wx ns (L.take k).flatten)/\Hid (Below w.heap.size w wx))
   case atStart=>exact⟨0,rfl,by omega,rfl,O1,HB1⟩
   case round=>
    obtain⟨k,hk,hk2,rfl,HO,HB2⟩:=hrel
    have HK:=Lib.hid hk
    have hz2:=HB2.out.size
    clear hk
    by_cases hlt2:k<L.length
    ·obtain⟨gl,off,sA,sc,eA,hgl,c2,r0⟩:=(H.out.keep HB2.out).at_ hlt2
     subst eA
     have R0:=Lib.hid r0
     have HT:=Lib.hid (flat_succ hlt2)
     have ht:(L.take k).flatten.length+(lvl L k).length<=1000000000:=by
      have h1:=flat_le L (k+1)
      rw[HT.out,List.length_append] at h1
      omega
     obtain⟨l,hl⟩:∃l,lvl L k=l:=⟨_,rfl⟩
     rw[hl] at c2 R0 HT ht
     obtain⟨o,ho⟩:∃o,(L.take k).flatten=o:=⟨_,rfl⟩
     rw[ho] at HO HT ht
     clear r0 hl ho
     obtain⟨A5,c5,rfl,_,_,_⟩:=HO.out.form
     go_wp2_with (at_builtin;refine wpList_append_E i64E (ts:=182) i0 _ 8 Tryz.underlying182 HI.out HZ0.out HSZ.out HBY.out rfl (by decide) (by decide) rfl (.tmp 31) (.tmp 32) rfl w.heap.size (.slice A5 o.length c5) o rfl HO.out (.slice sA l.length sc) l rfl R0.out (by omega) (by omega) ?_;intro v8 w8 o8 g8 a8)
     have HB8:Hid (Below w.heap.size w w8):=Lib.hid (HB2.out.grown g8 (by omega) (fun x hx=>(HO.out.lt x hx).1))
     have O8:=Lib.hid o8
     clear o8 g8 a8
     go_wp2_with fail
     go_roundg (L.length - (k+1))
     case measure=>have:=HK.out;omega
     case rel=>exact⟨k+1,rfl,by omega,by go_num,Lib.hid (by rw[HT.out];exact O8.out),HB8⟩
    ·obtain rfl:k=L.length:=by omega
     have ho:=HO.out
     rw[List.take_length] at ho
     have HO2:=Lib.hid ho
     clear ho HO
     go_wp2_with fail
     go_ret
     exact⟨_,rfl,HO2.out,HB2.out⟩
end Go.Proofs.YtilcnjbpmoijmaaGreat.K
