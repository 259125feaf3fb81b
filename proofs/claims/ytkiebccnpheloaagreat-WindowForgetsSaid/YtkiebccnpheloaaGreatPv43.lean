/- Parts of a proof: what its theorem reaches, words cut short. No condition of its own. -/
import Derived.Test.YtkiebccnpheloaaGreatPv42
set_option maxRecDepth 100000
set_option maxHeartbeats 16000000
set_option linter.unusedVariables false
set_option linter.unusedSimpArgs false
namespace Go.Proofs.YtkiebccnpheloaaGreat.D
open Go.RowKit Go.Lib Go.Shelf
section
variable {sp : Spk} {now a0 x n a : Nat} {C : List Js} {v : Value} {ps : List Nat} {Ow : Nat -> Ft} {G F H : Ft} {w w' : World} {s : Wn} {cq : Value} {B : List Int}
theorem sumU_bd(sp:Spk)(L:List Js):∀k,0<=sumU sp L k/\sumU sp L k<18446744073709551616
 | 0=>by unfold sumU;omega
 | k+1=>by unfold sumU;rw[IntKind.wrap_u64];omega
theorem win_total_many(m:Nat)(w:World)(h:WinB sp s.now a0 C v ps Ow G x w)(hL:s.L=rot sp.new a0 C)(ok:∀c∈s.L,JsOk sp c)(hm:m<=C.length):Calls Tryz.prog 55 #[.pointer (some ⟨x,0,none⟩),.int .i64 m] w fun e w'=>e=.returned (.int .u64 (sumU sp s.L m))/\Below w.heap.size w w':=by
 have c7:=h.c7
 have HW:=Lib.hid h
 have HL:=Lib.hid hL
 have HOK:=Lib.hid ok
 obtain⟨g,c,rfl,_⟩:=h.ring.pos h.pos
 have h1:¬((m:Int) > (C.length:Int)):=by omega
 have hm0:¬((m:Int)<0):=by omega
 have h60:=h.n60
 clear h hL ok
 go_enter Tryz.func55,Tryz.ntmps55
 go_wp2_with fail
 go_loopg [5,16] m (fun q t5 t16 wr=>∃j:Nat,q=m - j/\j<=m/\t5=.int .u64 (sumU sp s.L j)/\t16=.int .i64 j/\Hid (Below w.heap.size w wr))
 case atStart=>exact⟨0,rfl,by omega,rfl,rfl,Lib.hid (Below.refl _ _)⟩
 case round=>
  obtain⟨j,hq,hj,rfl,rfl,HB⟩:=hrel
  have HQ:=Lib.hid hq
  clear hq
  by_cases hlt:j<m
  ·have hji:(j:Int)<(m:Int):=by omega
   have hjC:j<C.length:=by omega
   have hw:=HW.out.keep HB.out
   have C1:=Lib.hid (win_slot j wr hw hjC)
   have hok:JsOk sp (s.L.getD j sp.new):=by rw[List.getD_eq_getElem?_getD,List.getElem?_eq_getElem (by rw[HL.out,rot_length];exact hjC),Option.getD_some];exact HOK.out _ (List.getElem_mem _)
   have C2:Hid (∀w2,Below wr.heap.size wr w2->_):=Lib.hid (fun w2 hb=>js_total w2 ((hw.keep hb).js HL.out hjC) hok)
   have HS:Hid (sumU sp s.L (j+1)=IntKind.u64.wrap (sumU sp s.L j+jtot sp (s.L.getD j sp.new))):=Lib.hid rfl
   have hb1:=sumU_bd sp s.L j
   have hb2:=jtot_bd hok
   clear hw hok
   generalize ps.getD (plc a0 C.length j) 0=y at *
   generalize jtot sp (s.L.getD j sp.new)=T at *
   obtain⟨S,hS⟩:∃z,sumU sp s.L j=z:=⟨_,rfl⟩
   rw[hS] at HS hb1 |-
   clear hS
   go_wp2_with fail
   refine(C1.out).mono ?_
   rintro e w2 ⟨rfl,hb⟩
   have D:=Lib.hid (C2.out w2 hb)
   have HB2:=Lib.hid (HB.out.trans (hb.mono HB.out.size))
   clear hb
   go_wp2_with fail
   refine(D.out).mono ?_
   rintro e w3 ⟨rfl,rfl⟩
   go_wp2_with fail
   go_roundg (m - (j+1))
   case measure=>have:=HQ.out;omega
   case rel=>exact⟨j+1,rfl,by omega,by rw[HS.out],by go_num,HB2⟩
  ·have hji:¬((j:Int)<(m:Int)):=by omega
   obtain rfl:j=m:=by omega
   go_wp2_with fail
   go_ret
   exact⟨rfl,HB.out⟩
theorem win_total(last:Int)(w:World)(h:WinB sp s.now a0 C v ps Ow G x w)(hL:s.L=rot sp.new a0 C)(ok:∀c∈s.L,JsOk sp c):Calls Tryz.prog 55 #[.pointer (some ⟨x,0,none⟩),.int .i64 last] w fun e w'=>e=.returned (.int .u64 (wtot sp s last))/\Below w.heap.size w w':=by
 have hlen:s.L.length=C.length:=by rw[hL,rot_length]
 by_cases h1:(C.length:Int)<last
 ·have c7:=h.c7
  obtain⟨g,c,rfl,_⟩:=h.ring.pos h.pos
  have h2:last > (C.length:Int):=h1
  have e:wtot sp s last=0:=by unfold wtot;rw[if_pos (by omega)]
  rw[e]
  clear h hL ok e h1
  go_enter Tryz.func55,Tryz.ntmps55
  go_wp2_with fail
  go_ret
  exact⟨rfl,by(repeat' (first|(with_reducible exact Below.refl _ _)|(with_reducible refine Below.alloc ?_ ?_ _)|(with_reducible refine Below.drew ?_)|(with_reducible refine below_drewN ?_ _)|(with_reducible refine Below.setCell ?_ ?_ _)|(with_reducible refine below_of (by assumption) ?_ ?_)|go_size))⟩
 ·by_cases h0:0<=last
  ·have e:wtot sp s last=sumU sp s.L last.toNat:=by unfold wtot;rw[if_neg (by omega)]
   have hl:((last.toNat:Nat):Int)=last:=by omega
   rw[e,<-hl]
   exact win_total_many last.toNat w h hL ok (by omega)
  ·have e:wtot sp s last=0:=by unfold wtot;rw[if_neg (by omega),show last.toNat=0 by omega];rfl
   rw[e]
   have c7:=h.c7
   obtain⟨g,c,rfl,_⟩:=h.ring.pos h.pos
   have h2:¬last > (C.length:Int):=h1
   have hmx:max last 0=0:=by omega
   clear h hL ok e h1
   go_enter Tryz.func55,Tryz.ntmps55
   go_wp2_with fail
   go_loopg [5,16] 0 (fun q t5 t16 wr=>t5=.int .u64 0/\t16=.int .i64 0/\w=wr)
   case atStart=>exact⟨rfl,rfl,rfl⟩
   case round=>
    obtain⟨rfl,rfl,rfl⟩:=hrel
    go_wp2_with fail
    go_ret
    exact⟨rfl,Below.refl _ _⟩
end
open Go.RowKit Go.Lib Go.Shelf
def poE(t:TypeId):Lie (Option Nat) where
 k:=1
 t:=t
 enc p:=[match p with|none=>.pointer none|some p=>ptrV p]
 len _:=rfl
 one p u hu:=by
  simp only[List.mem_cons,List.not_mem_nil,or_false] at hu
  subst hu;cases p<;>rfl
theorem po_pt(t:TypeId):∀ps:List Nat,cellsE (poE t) (ps.map some)=cellsE (ptE t) ps
 | []=>rfl
 | p::ps=>by rw[List.map_cons,cellsE_cons,cellsE_cons,po_pt t ps];rfl
theorem own_po{t:TypeId}{base:Nat}{w:World}{v:Value}{ps:List Nat}(h:OwnE (poE t) base w v (ps.map some)):OwnE (ptE t) base w v ps:=by
 unfold OwnE at h |-
 rw[po_pt,List.length_map] at h
 exact h
theorem own_noP(t:TypeId)(w:World)(n:Nat)(hn:n<=1000000):OwnE (poE t) w.heap.size (w.alloc (.cells (madeCells #[.pointer none] n) t)) (.slice (some ⟨w.heap.size,0,none⟩) n n) (List.replicate n none):=by
 have hl:(List.replicate n (none:Option Nat)).length=n:=by simp
 have hc:∀m,cellsE (poE t) (List.replicate m none)=List.replicate m (Value.pointer none):=fun m=>by
  induction m with
  | zero=>rfl
  | succ m ih=>rw[List.replicate_succ,cellsE_cons,ih,List.replicate_succ];rfl
 have hk:(poE t).k=1:=rfl
 refine⟨by rw[hc,List.length_replicate,hl,hk,Nat.mul_one],.inr ⟨w.heap.size,n,madeCells #[.pointer none] n,by rw[hl],Nat.le_refl _,heap_alloc_new _ _,by omega,by unfold maxLen;omega,by rw[size_madeCells,hk,Nat.mul_one],?_⟩⟩
 rw[hc,toList_madeCells_one,hl,hk,Nat.mul_one,List.take_replicate,Nat.min_self]
theorem pjI:(Tryz.prog.info? 24).map (fun i=>(i.zero,i.size,i.bytes))=some (some (.pointer none),1,8):=by kernel_rfl
theorem make_ring:∀(n:Nat),n<=60->∀W:World,(Instr.makeSlice 47 (.int .i64 n) (.int .i64 n)).run Tryz.prog W=.ok (.slice (some ⟨W.heap.size,0,none⟩) n n) (W.alloc (.cells (madeCells #[.pointer none] n) 24)):=fun n hn W=>by
 obtain⟨i1,h1,h2,h3,h4⟩:=info_parts pjI
 have:=run_make_rowN 47 24 i1 _ Tryz.underlying47 h1 h2 .i64 .i64 n n (Nat.le_refl _) (by rw[h4];omega) (by omega) W
 rw[h3,Nat.mul_one] at this
 exact this
structure NwAt(sp:Spk)(cs:List Value)(n i g x:Nat)(ps:List Nat)(Ow:Nat->Ft)(w0 wr:World):Prop where
 len:ps.length=i
 le:i<=n
 row:OwnE (poE 24) 0 wr (.slice (some ⟨g,0,none⟩) n n) (ps.map some++List.replicate (n - i) none)
 blk:Blk wr x 199 (cs++[Value.slice (some ⟨g,0,none⟩) n n,Value.int .i64 0,Value.int .u64 0]).toArray
 each:∀j,j<i->JsAt sp sp.new (ps.getD j 0) (Ow j) wr
 apart:∀a b k,Ow a k->Ow b k->a=b
 far:∀j k,Ow j k->(k≠g/\k≠x/\w0.heap.size<=k)/\k<wr.heap.size
 below:Below w0.heap.size w0 wr
theorem NwAt.next{sp:Spk}{cs:List Value}{n i g x y:Nat}{ps:List Nat}{Ow:Nat->Ft}{w0 wr w1:World}(h:NwAt sp cs n i g x ps Ow w0 wr)(hi:i<n)(hg:w0.heap.size<=g)(hgx:g≠x)(hgl:g<wr.heap.size)(hj:JsAt sp sp.new y (Gr (fun _=>False) wr w1) w1)(hb:Below wr.heap.size wr w1) :
 NwAt sp cs n (i+1) g x (ps++[y]) (updF Ow i (Gr (fun _=>False) wr w1)) w0 (w1.setCell ⟨g,i,none⟩ (ptrV y)):=by
 have hx:=h.blk.lt
 have ht:Touch (fun k=>k=g) w1 (w1.setCell ⟨g,i,none⟩ (ptrV y)):=Touch.setCell (F:=fun k=>k=g) (Touch.refl _ w1) (p:=⟨g,i,none⟩) (.inl rfl) _
 have hz:=hb.size
 have hl:=h.len
 have new:∀k,Gr (fun _=>False) wr w1 k->wr.heap.size<=k/\k<w1.heap.size:=fun k hk=>hk.elim False.elim id
 refine⟨by rw[List.length_append,h.len];rfl,hi,?_,?_,fun j hj'=>?_,fun a b k ha hb'=>?_,fun j k hk=>?_,(h.below.trans (hb.mono h.below.size)).setCell (p:=⟨g,i,none⟩) hg _⟩
 ·have h1:=(h.row.keep hb).set_ i (by simp;omega) (some y)
  rw[show i * (poE 24).k=i by show i * 1=i;omega] at h1
  have e:(ps.map some++List.replicate (n - i) none).set i (some y)=(ps++[y]).map some++List.replicate (n - (i+1)) none:=by
   rw[List.set_append_right _ _ (by rw[List.length_map];omega),List.length_map,hl,Nat.sub_self,show n - i=(n - (i+1))+1 by omega,List.replicate_succ,List.set_cons_zero,List.map_append,List.append_assoc];rfl
  rw[e] at h1
  exact h1
 ·exact(h.blk.keep hb).far (p:=⟨g,i,none⟩) (fun e=>hgx e.symm) _
 ·by_cases e:j=i
  ·subst e
   rw[updF_at,List.getD_eq_getElem?_getD,List.getElem?_append_right (by omega),hl,Nat.sub_self]
   exact(js_stay sp _ y).far hj ht (fun k hk e=>by have:=new k hk;rw[show k=g from e] at this;omega)
  ·rw[updF_ne e,List.getD_eq_getElem?_getD,List.getElem?_append_left (by omega),<-List.getD_eq_getElem?_getD]
   exact(js_stay sp _ _).far ((js_stay sp _ _).keep (h.each j (by omega)) hb) ht (fun k hk e=>(h.far j k hk).1.1 e)
 ·by_cases ea:a=i
  ·by_cases eb:b=i
   ·omega
   ·rw[ea,updF_at] at ha;rw[updF_ne eb] at hb'
    have:=new k ha;have:=(h.far b k hb').2;omega
  ·rw[updF_ne ea] at ha
   by_cases eb:b=i
   ·rw[eb,updF_at] at hb'
    have:=new k hb';have:=(h.far a k ha).2;omega
   ·rw[updF_ne eb] at hb';exact h.apart a b k ha hb'
 ·rw[World.size_setCell]
  by_cases e:j=i
  ·rw[e,updF_at] at hk
   have:=new k hk
   have:=h.below.size
   exact⟨⟨by omega,by omega,by omega⟩,by omega⟩
  ·rw[updF_ne e] at hk
   have:=h.far j k hk
   exact⟨this.1,by omega⟩
theorem NwAt.done{sp:Spk}{n g x:Nat}{ps:List Nat}{Ow:Nat->Ft}{w0 wr:World}(h:NwAt sp sp.cs n n g x ps Ow w0 wr)(h0:0<n)(h60:n<=60)(hg:w0.heap.size<=g)(hx:w0.heap.size<=x)(hgx:g≠x):WinAt sp (wnew sp n) x (Gr (fun _=>False) w0 wr) wr:=by
 have hrow:=h.row
 rw[Nat.sub_self,List.replicate_zero,List.append_nil] at hrow
 have hrow:=own_po hrow
 have hgl:=(hrow.lt g rfl).2
 have hO:∀i (hi:i<(List.replicate n sp.new).length),(List.replicate n sp.new)[i]=sp.new:=fun i hi=>List.getElem_replicate hi
 refine⟨0,List.replicate n sp.new,_,ps,fun j k=>j<n/\Ow j k,fun k=>(k=g\/(∃j,j<n/\Ow j k)),⟨h.blk,⟨hrow,by rw[h.len,List.length_replicate],fun i hi=>?_,fun a b k ha hb=>h.apart a b k ha.2 hb.2,fun k e=>?_,fun j k hk=>.inr ⟨j,hk⟩,fun k hk=>?_⟩,by rw[List.length_replicate];exact h0,by rw[List.length_replicate];exact h60,?_⟩,?_,.inr ⟨hx,h.blk.lt⟩,fun k hk=>?_,fun k hk=>hk.elim False.elim And.right⟩
 ·rw[hO]
  have hi':i<n:=by rw[List.length_replicate] at hi;exact hi
  exact(js_stay sp _ _).more (h.each i hi') (fun k hk=>⟨hi',hk⟩) (fun k hk=>(h.far i k hk.2).2)
 ·injection e with e
  exact⟨.inl e.symm,fun i hi=>(h.far i k hi.2).1.1 e.symm⟩
 ·rcases hk with rfl|⟨j,_,hk⟩
  ·exact hgl
  ·exact(h.far j k hk).2
 ·intro e
  rcases e with e|⟨j,_,hk⟩
  ·exact hgx e.symm
  ·exact(h.far j x hk).1.2.1 rfl
 ·unfold wnew
  refine List.ext_getElem (by rw[rot_length,List.length_replicate]) fun i h1 h2=>?_
  have h1':i<n:=by rw[List.length_replicate] at h1;exact h1
  rw[rot_get,List.length_replicate,List.getElem_replicate,List.getD_eq_getElem?_getD,List.getElem?_replicate,if_pos (plc_lt h0),Option.getD_some]
 ·rcases hk with rfl|⟨j,_,hk⟩
  ·exact .inr ⟨hg,hgl⟩
  ·exact .inr ⟨(h.far j k hk).1.2.2,(h.far j k hk).2⟩
open Go.RowKit Go.Lib Go.Shelf
theorem win_new_c{sp:Spk}{kd lo hi dg ac sz:Int}{gr:Bool}(hv:sp.v=specV kd lo hi dg gr ac sz)(hcs:sp.cs=[.int .u8 kd,.int .i64 lo,.int .i64 hi,.int .i64 dg,.bool gr,.int .i64 ac,.int .i64 sz])(ok:SpOk sp)(n:Nat)(w:World)(h0:1<=n)(h60:n<=60) :
 Calls Tryz.prog 41 #[specV kd lo hi dg gr ac sz,.int .i64 n] w fun e w'=>∃x,e=.returned (.tuple #[.pointer (some ⟨x,0,none⟩),.int .i64 0])/\WinAt sp (wnew sp n) x (Gr (fun _=>False) w w') w'/\Below w.heap.size w w':=by
 have CM:Hid (∀w1:World,Calls Tryz.prog 21 #[.agg #[.int .u8 kd,.int .i64 lo,.int .i64 hi,.int .i64 dg,.bool gr,.int .i64 ac,.int .i64 sz]] w1 _):=Lib.hid (fun w1=>by rw[show Value.agg #[.int .u8 kd,.int .i64 lo,.int .i64 hi,.int .i64 dg,.bool gr,.int .i64 ac,.int .i64 sz]=sp.v from hv.symm];exact js_make w1 ok)
 have HCS:=Lib.hid hcs
 clear hv hcs ok
 unfold specV
 obtain⟨b,hbb⟩:∃b,w.heap.size=b:=⟨_,rfl⟩
 obtain⟨wa,hwa⟩:∃z,w.alloc (.cells #[.int .u8 kd,.int .i64 lo,.int .i64 hi,.int .i64 dg,.bool gr,.int .i64 ac,.int .i64 sz] 34)=z:=⟨_,rfl⟩
 have ha:Below w.heap.size w wa:=by rw[<-hwa];(repeat' (first|(with_reducible exact Below.refl _ _)|(with_reducible refine Below.alloc ?_ ?_ _)|(with_reducible refine Below.drew ?_)|(with_reducible refine below_drewN ?_ _)|(with_reducible refine Below.setCell ?_ ?_ _)|(with_reducible refine below_of (by assumption) ?_ ?_)|go_size))
 have B0:Hid (Blk wa b 34 #[.int .u8 kd,.int .i64 lo,.int .i64 hi,.int .i64 dg,.bool gr,.int .i64 ac,.int .i64 sz]):=by rw[<-hwa,<-hbb];exact Lib.hid (Blk.new _ _ _)
 have HBB:=Lib.hid hbb
 have hn1:¬(n:Int)<1:=by omega
 have hn2:¬(n:Int) > 60:=by omega
 go_enter Tryz.func41,Tryz.ntmps41
 go_upto_region 3 with fail
 try rw[hwa]
 clear hwa hbb
 obtain⟨g,hgg⟩:∃g,wa.heap.size=g:=⟨_,rfl⟩
 have HGG:=Lib.hid hgg
 have lb:b<wa.heap.size:=B0.out.lt
 have s0:=B0.out.cell 0
 have s1:=B0.out.cell 1
 have s2:=B0.out.cell 2
 have s3:=B0.out.cell 3
 have s4:=B0.out.cell 4
 have s5:=B0.out.cell 5
 have s6:=B0.out.cell 6
 simp only[List.getElem?_toArray,List.getElem?_cons_zero,List.getElem?_cons_succ] at s0 s1 s2 s3 s4 s5 s6
 have SS:=Lib.hid (And.intro s0 (And.intro s1 (And.intro s2 (And.intro s3 (And.intro s4 (And.intro s5 s6))))))
 clear s0 s1 s2 s3 s4 s5 s6
 have hmk:=make_ring n h60
 have Ba:Below wa.heap.size wa wa.drew:=(Below.refl _ _).drew
 have Bm:Below wa.heap.size wa (wa.drew.alloc (.cells (madeCells #[.pointer none] n) 24)):=Ba.alloc Ba.size _
 have FBq:=Lib.hid (fun w' (hS':(Below wa.heap.size wa) w')=>(And.intro ((hS'.cell (p:=⟨b,0,none⟩) lb).trans SS.out.1) (And.intro ((hS'.cell (p:=⟨b,1,none⟩) lb).trans SS.out.2.1) (And.intro ((hS'.cell (p:=⟨b,2,none⟩) lb).trans SS.out.2.2.1) (And.intro ((hS'.cell (p:=⟨b,3,none⟩) lb).trans SS.out.2.2.2.1) (And.intro ((hS'.cell (p:=⟨b,4,none⟩) lb).trans SS.out.2.2.2.2.1) (And.intro ((hS'.cell (p:=⟨b,5,none⟩) lb).trans SS.out.2.2.2.2.2.1) ((hS'.cell (p:=⟨b,6,none⟩) lb).trans SS.out.2.2.2.2.2.2))))))))
 refine wp_region_plan (Below wa.heap.size wa) [(0,true),(1,true),(2,false),(3,true),(4,false),(5,true)] (by kernel_rfl) (by kernel_rfl) (Ba) ?_
 iterate 2
  refine wpPlan_read (by rfl) (by rfl) (fun R hR=>?_)
  apply Exists.intro
  refine⟨fun w' hS'=>?_,?_⟩
  ·obtain⟨s0,s1,s2,s3,s4,s5,s6⟩:=FBq.out w' hS'
   go_simp
   exact⟨rfl,rfl⟩
  go_simp
  refine hR _ ?_
  clear hR R
 refine wpPlan_do (by rfl) (by rfl) (fun K hK=>?_)
 go_simp
 refine hK _ _ (Bm) ?_
 clear hK K
 iterate 1
  refine wpPlan_read (by rfl) (by rfl) (fun R hR=>?_)
  apply Exists.intro
  refine⟨fun w' hS'=>?_,?_⟩
  ·obtain⟨s0,s1,s2,s3,s4,s5,s6⟩:=FBq.out w' hS'
   go_simp
   exact⟨rfl,rfl⟩
  go_simp
  refine hR _ ?_
  clear hR R
 refine wpPlan_do (by rfl) (by rfl) (fun K hK=>?_)
 go_simp
 refine hK _ _ (Bm.alloc Bm.size _) ?_
 clear hK K
 iterate 1
  refine wpPlan_read (by rfl) (by rfl) (fun R hR=>?_)
  apply Exists.intro
  refine⟨fun w' hS'=>?_,?_⟩
  ·obtain⟨s0,s1,s2,s3,s4,s5,s6⟩:=FBq.out w' hS'
   go_simp
   exact⟨rfl,rfl⟩
  go_simp
  refine hR _ ?_
  clear hR R
 refine wpPlan_nil ?_
 obtain⟨wc,hwc⟩:∃z,((wa.alloc (.cells (madeCells #[.pointer none] n) 24)).alloc (.cells #[.int .u8 kd,.int .i64 lo,.int .i64 hi,.int .i64 dg,.bool gr,.int .i64 ac,.int .i64 sz,.slice (some ⟨g,0,none⟩) n n,.int .i64 0,.int .u64 0] 199)).drew=z:=⟨_,rfl⟩
 try refine calm_normal ?_
 rw[hwc]
 have HN0:Hid (NwAt sp sp.cs n 0 g (g+1) [] (fun _ _=>False) wa wc):=by
  rw[<-hwc]
  have hr:=own_noP 24 wa n (by omega)
  rw[hgg] at hr
  have hw:=Blk.new (wa.alloc (.cells (madeCells #[.pointer none] n) 24)) 199 #[.int .u8 kd,.int .i64 lo,.int .i64 hi,.int .i64 dg,.bool gr,.int .i64 ac,.int .i64 sz,.slice (some ⟨g,0,none⟩) n n,.int .i64 0,.int .u64 0]
  rw[World.size_alloc,hgg] at hw
  refine Lib.hid ⟨rfl,by omega,?_,?_,fun j hj=>by omega,fun a b k h=>h.elim,fun j k h=>h.elim,by(repeat' (first|(with_reducible exact Below.refl _ _)|(with_reducible refine Below.alloc ?_ ?_ _)|(with_reducible refine Below.drew ?_)|(with_reducible refine below_drewN ?_ _)|(with_reducible refine Below.setCell ?_ ?_ _)|(with_reducible refine below_of (by assumption) ?_ ?_)|go_size))⟩
  ·exact((OwnE.more hr (Nat.zero_le _)).alloc _).drew
  ·rw[HCS.out];exact hw.drew
 have hgl:g<wc.heap.size:=by rw[<-hwc];show g<((wa.alloc _).alloc _).heap.size;rw[World.size_alloc,World.size_alloc,hgg];omega
 clear hwc Ba Bm hmk
 have f7:wc.cell? ⟨g+1,7,none⟩=some (.slice (some ⟨g,0,none⟩) n n):=by have:=HN0.out.blk;rw[HCS.out] at this;exact this.cell 7
 go_wp2_with fail
 clear f7
 go_loopg [7,8,9,26] n (fun q _ _ _ t26 wr=>∃(i:Nat) (ps:List Nat) (Ow:Nat->Ft),q=n - i/\t26=.int .i64 i/\Hid (NwAt sp sp.cs n i g (g+1) ps Ow wa wr))
 case atStart=>exact⟨0,_,_,by omega,rfl,HN0⟩
 case round=>
  obtain⟨i,ps,Ow,hq,rfl,HN⟩:=hrel
  have HQ:=Lib.hid hq
  clear hq
  have hin:=HN.out.le
  by_cases hlt:i<n
  ·have hji:(i:Int)<(n:Int):=by omega
   have hb:=HN.out.below
   have s0:=(hb.cell (p:=⟨b,0,none⟩) lb).trans SS.out.1
   have s1:=(hb.cell (p:=⟨b,1,none⟩) lb).trans SS.out.2.1
   have s2:=(hb.cell (p:=⟨b,2,none⟩) lb).trans SS.out.2.2.1
   have s3:=(hb.cell (p:=⟨b,3,none⟩) lb).trans SS.out.2.2.2.1
   have s4:=(hb.cell (p:=⟨b,4,none⟩) lb).trans SS.out.2.2.2.2.1
   have s5:=(hb.cell (p:=⟨b,5,none⟩) lb).trans SS.out.2.2.2.2.2.1
   have s6:=(hb.cell (p:=⟨b,6,none⟩) lb).trans SS.out.2.2.2.2.2.2
   have hglr:g<wr.heap.size:=(HN.out.row.lt g rfl).2
   clear hb
   go_wp2_with fail
   refine(CM.out wr).mono ?_
   rintro e w1 ⟨y,rfl,hj,hb1⟩
   have HN1:=Lib.hid (HN.out.next hlt (by rw[<-HGG.out];exact Nat.le_refl _) (by omega) hglr hj hb1)
   have f7:w1.cell? ⟨g+1,7,none⟩=some (.slice (some ⟨g,0,none⟩) n n):=by have:=HN.out.blk.keep hb1;rw[HCS.out] at this;exact this.cell 7
   obtain⟨cg,hcg⟩:∃u,w1.cell? ⟨g,i,none⟩=some u:=by
    have:=(HN.out.row.keep hb1).cellAt (j:=i) (by simp[HN.out.len];omega) 0 (by show 0<1;omega)
    rw[show i * (poE 24).k+0=i by show i * 1+0=i;omega] at this
    exact⟨_,this⟩
   have fg:=(HN.out.row.keep hb1).frozenAt i
   clear s0 s1 s2 s3 s4 s5 s6 hj hb1
   unfold ptrV at HN1
   go_wp2_with fail
   go_roundg (n - (i+1))
   case measure=>have:=HQ.out;omega
   case rel=>exact⟨i+1,_,_,rfl,by go_num,HN1⟩
  ·have hji:¬((i:Int)<(n:Int)):=by omega
   obtain rfl:i=n:=by omega
   go_wp2_with fail
   refine bodyPost_ret (by simp[results,Tryz.results41,go_sem, *];try rfl) rfl ?_
   have hg:=HGG.out
   have hz:=ha.size
   have hd:=HN.out.done (by omega) h60 (by omega) (by omega) (by omega)
   exact⟨g+1,rfl,(win_stay sp _ _).more hd (fun k hk=>hk.elim False.elim (fun h=>.inr ⟨by omega,h.2⟩)) (fun k hk=>hk.elim False.elim And.right),ha.trans (HN.out.below.mono hz)⟩
theorem win_new{sp:Spk}(n:Nat)(w:World)(ok:SpOk sp)(h0:1<=n)(h60:n<=60) :
 Calls Tryz.prog 41 #[sp.v,.int .i64 n] w fun e w'=>∃x,e=.returned (.tuple #[.pointer (some ⟨x,0,none⟩),.int .i64 0])/\WinAt sp (wnew sp n) x (Gr (fun _=>False) w w') w'/\Below w.heap.size w w':=by
 cases sp with
 | h lo hi dg u m gr=>exact win_new_c rfl rfl ok n w h0 h60
 | d a m=>exact win_new_c rfl rfl ok n w h0 h60
 | t d=>exact win_new_c rfl rfl ok n w h0 h60
 | k q=>exact win_new_c rfl rfl ok n w h0 h60
end Go.Proofs.YtkiebccnpheloaaGreat.D
