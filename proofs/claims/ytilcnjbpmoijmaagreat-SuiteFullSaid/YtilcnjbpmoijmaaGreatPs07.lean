/- Parts of a proof: what its theorem reaches, words cut short. No condition of its own. -/
import Derived.Test.YtilcnjbpmoijmaaGreatPs03
import Derived.Test.YtilcnjbpmoijmaaGreatPs06
import Derived.Test.YtilcnjbpmoijmaaGreatProg
set_option maxRecDepth 100000
set_option maxHeartbeats 16000000
set_option linter.unusedVariables false
set_option linter.unusedSimpArgs false
namespace Go.Proofs.YtilcnjbpmoijmaaGreat.D
open Go.RowKit
structure Ty(P:Program){α:Type}(E:Lie α)(ts:TypeId):Prop where
 sl:P.underlying ts=some (.slice E.t)
 inf:∃i z b,P.info? E.t=some i/\i.zero=some z/\i.size=E.k/\i.bytes=b/\z.cells.size=E.k/\0<E.k/\b<=128
theorem ty_of{P:Program}{α:Type}{E:Lie α}{ts:TypeId}{z:Value}{b:Nat}(h:(P.info? E.t).map (fun i=>(i.zero,i.size,i.bytes))=some (some z,E.k,b))(sl:P.underlying ts=some (.slice E.t))(hz:z.cells.size=E.k)(hk:0<E.k)(hb:b<=128):Ty P E ts:=by
 obtain⟨i0,hi0,hiz,his,hib⟩:=info_parts h
 exact⟨sl,i0,z,b,hi0,hiz,his,hib,hz,hk,hb⟩
section
variable {P : Program} {α : Type} {E : Lie α} {ts : TypeId} {w : World} {base : Nat} {v : Value} {xs : List α}
theorem apL(T:Ty P E ts){ops:Array Oper}{rest:List Oper}{o:Oper}{a:Act}{Q:Exit->Act->World->Prop}(hgd:o.guard=none)(s x:Operand)
 (ho:o.op=.call {callee:=.builtin .append,args:=#[s,x],argTypes:=#[ts,ts]}) (hown:OwnE E base w v xs) (hs:a.eval s=v) (u:Value) (news:List α) (hx:a.eval x=u) (hr:RdE E w u news) (hlen:xs.length+news.length<=1099511627776) (hbase:base<=w.heap.size)
 (h:∀v' w',OwnE E base w' v' (xs++news)->w.grownBy w' v.ownBlock->(v'.ownBlock=v.ownBlock\/v'.ownBlock=some w.heap.size)->wpList P ops Q rest (a.put o.dst v') w'):wpList P ops Q (o::rest) a w:=by
 obtain⟨sl,i,z,b,h1,h2,h3,h4,h5,h6,h7⟩:=T
 exact wpList_append_E E i z b sl h1 h2 h3 h4 h5 h6 h7 hgd s x ho base v xs hs hown u news hx hr hlen hbase h
theorem own_ne{g:Nat}{T:TypeId}{cs:Array Value}(hB:Blk w g T cs)(hO:OwnE E base w v xs)(ht:T≠E.t):v.ownBlock≠some g:=by
 intro e
 rcases hO.2 with h2|⟨g',cap,cur,rfl,e2,e3,r⟩
 ·rw[h2.1] at e;cases e
 ·cases e
  unfold Blk at hB
  rw[hB] at e3
  cases e3
  exact ht rfl
theorem blk_grown{g:Nat}{T:TypeId}{cs:Array Value}{w':World}(hB:Blk w g T cs)(hO:OwnE E base w v xs)(ht:T≠E.t)(hg:w.grownBy w' v.ownBlock):Blk w' g T cs:=
 (hg.block g hB.lt (fun e=>own_ne hB hO ht e.symm)).trans hB
theorem put_back{g i:Nat}{T:TypeId}{cs:Array Value}{w':World}{v':Value}{ys:List α}(hB:Blk w g T cs)(hO:OwnE E base w v xs)(ht:T≠E.t)(hg:w.grownBy w' v.ownBlock)(hO':OwnE E base w' v' ys) :
 Blk (w'.setCell ⟨g,i,none⟩ v') g T (cs.setIfInBounds i v')/\OwnE E base (w'.setCell ⟨g,i,none⟩ v') v' ys:=
 have hB':=blk_grown hB hO ht hg
 ⟨hB'.set_ i v',hO'.far (own_ne hB' hO' ht) _⟩
end
theorem own_in{v v':Value}{z:Nat}(h:v'.ownBlock=v.ownBlock\/v'.ownBlock=some z)(k:Nat)(e:v'.ownBlock=some k):v.ownBlock=some k\/z<=k:=by
 rcases h with h|h
 ·exact .inl (h▸e)
 ·rw[h] at e;injection e with e;exact .inr (by omega)
theorem tcell{F:Nat->Prop}{w w':World}(h:Touch F w w'){k:Nat}(o:Nat)(hk:k<w.heap.size)(hF:¬F k):w'.cell? ⟨k,o,none⟩=w.cell? ⟨k,o,none⟩:=World.cell?_of_block (a:=⟨k,o,none⟩) (h.block k hk hF)
open Go.RowKit
abbrev Ft:=Nat->Prop
def Gr(F:Ft)(w w':World):Ft:=fun k=>F k\/(w.heap.size<=k/\k<w'.heap.size)
section
variable {F G : Ft} {w w1 w2 : World}
theorem tbl(t:Touch F w w1)(hb:Below w1.heap.size w1 w2):Touch F w w2:=t.trans (Touch.of_below (F:=F) hb (Nat.le_refl _)) (fun _ h=>.inl h)
theorem btl(hb:Below w.heap.size w w1)(t:Touch F w1 w2):Touch F w w2:=(Touch.of_below (F:=F) hb (Nat.le_refl _)).trans t (fun _ h=>.inl h)
end
structure Stay(P:Ft->World->Prop):Prop where
 stay:∀{F:Ft} {w w':World},P F w->(∀k,F k->w'.heap[k]?=w.heap[k]?)->w.heap.size<=w'.heap.size->P F w'
 more:∀{F G:Ft} {w:World},P F w->(∀k,F k->G k)->(∀k,G k->k<w.heap.size)->P G w
 low:∀{F:Ft} {w:World},P F w->∀k,F k->k<w.heap.size
theorem Stay.keep{P:Ft->World->Prop}(S:Stay P){F:Ft}{w w':World}(h:P F w)(hb:Below w.heap.size w w'):P F w':=S.stay h (fun k hk=>hb.block k (S.low h k hk)) hb.size
open Go.RowKit Go.Lib Go.Maps
def poE:Lie (Option Nat) where
 k:=1
 t:=51
 enc x:=[.pointer (x.map fun p=>⟨p,0,none⟩)]
 len:=fun _=>rfl
 one:=fun x u hu=>by simp at hu;subst hu;rfl
theorem tyPo:Ty Tryz.prog poE 87:=ty_of (z:=.pointer none) (b:=8) (by kernel_rfl) (by kernel_rfl) rfl (by decide) (by decide)
theorem mapSu:Tryz.prog.underlying 140=some (.map 79 3):=by kernel_rfl
theorem u32U:Tryz.prog.underlying 79=some (.int .u32):=by kernel_rfl
theorem intU':Tryz.prog.underlying 3=some (.int .i64):=by kernel_rfl
theorem keySu:Keyed Tryz.prog 79:=int_keyed u32U
theorem zeroI(w:World):(zeroValue 3).run Tryz.prog w=.ok (.int .i64 0) w:=by kernel_rfl
theorem keyOfU{k:Int}(k0:0<=k)(k1:k<=4294967295):keyOf Tryz.prog 79 (.int .u32 k)=some (uL k):=keyOf_int_mk u32U (WalkArith.wf_u32 ⟨k0,k1⟩)
structure SuB(w:World)(sb mb o:Nat)(xv:Value)(sz:Nat)(m:Int->Option Nat)(xs:List (Option Nat)):Prop where
 blk:Blk w sb 142 #[.map (some mb),xv]
 mp:∃D,w.ownsMap Tryz.prog 79 (plainElem (H:=Unit) Tryz.prog 3) mb sz D/\LkM D m sz
 row:OwnE poE o w xv xs
 so:sb<o
 mo:mb<o
 pl:∀h i,m h=some i->i<xs.length
 sl:sz<=1000
 xl:xs.length<=1000
 oz:o<=w.heap.size
def SuAt(sb sz:Nat)(m:Int->Option Nat)(xs:List (Option Nat))(G:Ft)(w:World):Prop:=∃mb o xv,SuB w sb mb o xv sz m xs/\G sb/\G mb/\(∀k,xv.ownBlock=some k->G k)/\∀k,G k->k<w.heap.size
theorem om_stay{mb sz:Nat}{w w':World}{D:DataW Unit}(h:w.ownsMap Tryz.prog 79 (plainElem (H:=Unit) Tryz.prog 3) mb sz D)(hk:w'.heap[mb]?=w.heap[mb]?):w'.ownsMap Tryz.prog 79 (plainElem (H:=Unit) Tryz.prog 3) mb sz D:=by
 obtain⟨es,clock,hb,r⟩:=h
 exact⟨es,clock,hk.trans hb,r⟩
theorem su_stay(sb sz:Nat)(m:Int->Option Nat)(xs:List (Option Nat)):Stay (SuAt sb sz m xs) where
 stay:=fun⟨mb,o,xv,h,h1,h2,h3,h4⟩ hk hz=>⟨mb,o,xv,⟨(hk sb h1).trans h.blk,(by obtain⟨D,q,r⟩:=h.mp;exact⟨D,om_stay q (hk mb h2),r⟩),h.row.stay (fun k e=>hk k (h3 k e)),h.so,h.mo,h.pl,h.sl,h.xl,Nat.le_trans h.oz hz⟩,h1,h2,h3,fun k e=>Nat.lt_of_lt_of_le (h4 k e) hz⟩
 more:=fun⟨mb,o,xv,h,h1,h2,h3,_⟩ hG hl=>⟨mb,o,xv,h,hG _ h1,hG _ h2,fun k e=>hG k (h3 k e),hl⟩
 low:=fun⟨_,_,_,_,_,_,_,h⟩=>h
abbrev pO(x:Option Nat):Value:=.pointer (x.map fun p=>⟨p,0,none⟩)
theorem su_new(w:World):Calls Tryz.prog 28 #[] w fun e w'=>∃sb,e=.returned (.pointer (some ⟨sb,0,none⟩))/\SuAt sb 0 (fun _=>none) [] (Gr (fun _=>False) w w') w'/\Below w.heap.size w w':=by
 have hmm:=@run_makeMap Tryz.prog
 go_enter Tryz.func28,Tryz.ntmps28
 go_wp2_with fail
 go_ret
 refine⟨_,rfl,?_,by(repeat' (first|(with_reducible exact Below.refl _ _)|(with_reducible refine Below.alloc ?_ ?_ _)|(with_reducible refine Below.drew ?_)|(with_reducible refine below_drewN ?_ _)|(with_reducible refine Below.setCell ?_ ?_ _)|(with_reducible refine below_of (by assumption) ?_ ?_)|go_size))⟩
 have hz:(w.alloc (.map #[] 0)).heap.size=w.heap.size+1:=by rw[World.size_alloc]
 refine⟨w.heap.size,w.heap.size+2,.slice none 0 0,⟨by rw[<-hz];exact Blk.new _ _ _,⟨.map [],(World.ownsMap_made w _ _ _).alloc _,lkm_nil⟩,OwnE.nil_ _ _,?_,by omega,fun h i e=>(by cases e),by omega,by simp,by rw[World.size_alloc,hz];omega⟩,?_,?_,fun k e=>(by cases e),fun k e=>?_⟩
 ·omega
 ·exact .inr ⟨by omega,by rw[World.size_alloc];omega⟩
 ·exact .inr ⟨by omega,by rw[World.size_alloc,hz];omega⟩
 ·exact e.elim False.elim And.right
section
variable {sb sz : Nat} {m : Int -> Option Nat} {xs : List (Option Nat)} {G : Ft}
theorem su_find_no{k:Int}(k0:0<=k)(k1:k<=4294967295)(w:World)(h:SuAt sb sz m xs G w)(hm:m k=none) :
 Calls Tryz.prog 66 #[.pointer (some ⟨sb,0,none⟩),.int .u32 k] w fun e w'=>e=.returned (.tuple #[.pointer none,.bool false])/\w=w':=by
 obtain⟨mb,o,xv,h,_⟩:=h
 have s0:=h.blk.cell 0
 simp only[List.getElem?_toArray,List.getElem?_cons_zero] at s0
 obtain⟨D,hown,hD⟩:=h.mp
 have hh:=hD.has_ k
 rw[hm] at hh
 obtain⟨v,ps,hr,hv⟩:=hown.look_ok keySu mapSu (zeroI w) (zd:=iD 0) (plainElem_int intU' (by decide)) (keyOfU k0 k1)
 rw[hh] at hr
 obtain⟨c,rfl,hc,_⟩:=plainElem_int_inv intU' hv
 have hr':(Instr.lookup 140 (.map (some mb)) (.int .u32 k) true).run Tryz.prog w=.ok (.tuple #[.int .i64 c,.bool false]) w:=hr
 clear hr hv hc hh hm hown hD h
 go_enter Tryz.func66,Tryz.ntmps66
 go_wp2_with fail
 refine bodyPost_ret (by simp[results,Tryz.results66,go_sem, *];try rfl) rfl ?_
 exact⟨rfl,rfl⟩
theorem su_find_yes{k:Int}{i:Nat}(k0:0<=k)(k1:k<=4294967295)(w:World)(h:SuAt sb sz m xs G w)(hm:m k=some i){y:Option Nat}(hy:xs[i]?=some y) :
 Calls Tryz.prog 66 #[.pointer (some ⟨sb,0,none⟩),.int .u32 k] w fun e w'=>e=.returned (.tuple #[pO y,.bool true])/\w=w':=by
 obtain⟨mb,o,xv,h,_⟩:=h
 have s0:=h.blk.cell 0
 have s1:=h.blk.cell 1
 simp only[List.getElem?_toArray,List.getElem?_cons_zero,List.getElem?_cons_succ] at s0 s1
 obtain⟨D,hown,hD⟩:=h.mp
 have hh:=hD.has_ k
 have hat:=hD.at_ k i (iD 0) hm
 rw[hm] at hh
 obtain⟨v,ps,hr,hv⟩:=hown.look_ok keySu mapSu (zeroI w) (zd:=iD 0) (plainElem_int intU' (by decide)) (keyOfU k0 k1)
 rw[hh] at hr
 rw[hat] at hv
 obtain⟨c,rfl,hc,_⟩:=plainElem_int_inv intU' hv
 have hc':c=(i:Int):=by cases hc;rfl
 subst hc'
 have hr':(Instr.lookup 140 (.map (some mb)) (.int .u32 k) true).run Tryz.prog w=.ok (.tuple #[.int .i64 i,.bool true]) w:=hr
 have hi:=h.pl k i hm
 obtain⟨g,c,rfl,_,_,hc1,hc2⟩:=h.row.pos (by omega)
 have e:=h.row.cellAt hi 0 (by decide)
 rw[show i * poE.k+0=i by show i * 1+0=i;omega] at e
 rw[List.getElem?_eq_getElem hi] at hy
 have e':w.cell? ⟨g,i,none⟩=some (pO y):=by rw[e,Option.some.inj hy];rfl
 have i0:(0:Int)<=i:=by omega
 have i1:(i:Int)<xs.length:=by omega
 clear hr hv hc hh hm hown hD h e hat hy hi
 go_enter Tryz.func66,Tryz.ntmps66
 go_wp2_with fail
 refine bodyPost_ret (by simp[results,Tryz.results66,go_sem, *];try rfl) rfl ?_
 exact⟨rfl,rfl⟩
end
end Go.Proofs.YtilcnjbpmoijmaaGreat.D
