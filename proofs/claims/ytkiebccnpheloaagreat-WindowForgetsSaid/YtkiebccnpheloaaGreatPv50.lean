/- Parts of a proof: what its theorem reaches, words cut short. No condition of its own. -/
import Derived.Test.YtkiebccnpheloaaGreatPv49
set_option maxRecDepth 100000
set_option maxHeartbeats 16000000
set_option linter.unusedVariables false
set_option linter.unusedSimpArgs false
namespace Go.Proofs.YtkiebccnpheloaaGreat
open Go.RowKit
inductive Tr where
 | nil
 | rd (i:Nat) (t:Tr)
 | ef (i:Nat) (t:Tr)
 | two (i j:Nat) (t u:Tr)
def Tr.len:Tr->Nat
 | .nil=>0
 | .rd _ t=>t.len+1
 | .ef _ t=>t.len+1
 | .two _ _ t _=>t.len+1
section
variable {P : Program} {ops : Array Oper} {md : Region.Mode} {S : World -> Prop} {Q : Exit -> Act -> World -> Prop}
def trB(md:Region.Mode)(ops:Array Oper):Tr->Array Bool->Bool
 | .nil,listed=>(Region.ready md ops listed).isEmpty
 | .rd i r,listed=>(Region.ready md ops listed).contains i && Region.free md ops listed i && trB md ops r (listed.setIfInBounds i true)
 | .ef i r,listed=>decide (Region.ready md ops listed=[i]) && trB md ops r (listed.setIfInBounds i true)
 | .two i j r q,listed=>decide (Region.ready md ops listed=[i,j]) && decide (r.len=q.len) && trB md ops r (listed.setIfInBounds i true) && trB md ops q (listed.setIfInBounds j true)
def wpTr(P:Program)(ops:Array Oper)(Q:Exit->Act->World->Prop)(S:World->Prop):Tr->Act->World->Prop
 | .nil,a,w=>Q .normal a w
 | .rd i r,a,w=>∃o v,ops[i]?=some o/\YieldsIf P ops S o v a/\wpTr P ops Q S r (a.put o.dst v) w
 | .ef i r,a,w=>wpOp P ops Q i (fun a' w'=>S w'/\wpTr P ops Q S r a' w') a w
 | .two i j r q,a,w=>wpOp P ops Q i (fun a' w'=>S w'/\wpTr P ops Q S r a' w') a w/\wpOp P ops Q j (fun a' w'=>S w'/\wpTr P ops Q S q a' w') a w
theorem tr_sound(hsel:Region.noSelect ops=true)(hQ:∀c a w,¬Q (.panic c) a w):∀(t:Tr) (listed:Array Bool) (a:Act) (w:World),trB md ops t listed=true->S w ->
 wpTr P ops Q S t a w->wpAnyH P md ops Q S t.len listed a w
 | .nil,listed,a,w,hB,_,h=>⟨by simpa[trB] using hB,h⟩
 | .rd i r,listed,a,w,hB,hS,h=>by
  simp only[trB,Bool.and_eq_true] at hB
  obtain⟨o,v,ho,hy,hn⟩:=h
  exact wpAnyH_take ho hsel hB.1.2 hB.1.1 (fun c a w hp=>absurd hp (hQ c _ w)) hy hS (tr_sound hsel hQ r _ _ w hB.2 hS hn)
 | .ef i r,listed,a,w,hB,hS,h=>by
  simp only[trB,Bool.and_eq_true,decide_eq_true_eq] at hB
  refine⟨fun h0=>(by rw[hB.1] at h0;cases h0),fun j hj=>?_⟩
  rw[hB.1] at hj
  have hji:j=i:=by simpa using hj
  subst hji
  exact wpOp_mono (fun a' w' h'=>⟨h'.1,tr_sound hsel hQ r _ a' w' hB.2 h'.1 h'.2⟩) h
 | .two i j r q,listed,a,w,hB,hS,h=>by
  simp only[trB,Bool.and_eq_true,decide_eq_true_eq] at hB
  obtain⟨⟨⟨h1,h2⟩,h3⟩,h4⟩:=hB
  refine⟨fun h0=>(by rw[h1] at h0;cases h0),fun k hk=>?_⟩
  rw[h1] at hk
  simp only[List.mem_cons,List.not_mem_nil,or_false] at hk
  rcases hk with rfl|rfl
  ·exact wpOp_mono (fun a' w' h'=>⟨h'.1,tr_sound hsel hQ r _ a' w' h3 h'.1 h'.2⟩) h.1
  ·exact wpOp_mono (fun a' w' h'=>⟨h'.1,by
    have:=tr_sound hsel hQ q _ a' w' h4 h'.1 h'.2
    rw[<-h2] at this;exact this⟩) h.2
theorem wp_region_tree{id:Nat}{a:Act}{w:World}(S:World->Prop)(t:Tr)(hm:P.follows .mixedOrders=true)
 (hB:(Region.noSelect ops && decide (t.len=ops.size) && trB .any ops t (Array.replicate ops.size false))=true)
 (hS:S w.drew) (h:wpTr P ops (Calm Q) S t a w.drew):(Code.region id ops true).wp P Q a w:=by
 simp only[Bool.and_eq_true,decide_eq_true_eq] at hB
 have H:=tr_sound (Q:=Calm Q) hB.1.1 (fun _ _ _ h=>h) t _ a _ hB.2 hS h
 rw[hB.1.2] at H
 exact Code.wp_mono Calm.imp (wp_region_any hm (wpAny_of_held _ _ _ _ H))
theorem wpTr_read{i:Nat}{r:Tr}{a:Act}{w:World}{o:Oper}(ho:ops[i]?=some o)(hw:Region.wanted o (yielded ops a.tmps)=true)
 (h:∀R:Act->Prop,(∀a',wpTr P ops Q S r a' w->R a')->∃v,(∀w',S w'->IsVal v w' ((execOp a.eval o).run P w'))/\R (a.put o.dst v)):wpTr P ops Q S (.rd i r) a w:=by
 obtain⟨v,h1,h2⟩:=h _ (fun _ h=>h)
 refine⟨o,v,ho,.inl ⟨hw,fun w' hS=>?_⟩,h2⟩
 have h3:=h1 w' hS
 generalize (execOp a.eval o).run P w'=x at *
 cases x with
 | ok n w''=>obtain⟨rfl,rfl⟩:=h3;rfl
 | halt x w''=>exact h3.elim
theorem wpTr_do{i:Nat}{r:Tr}{a:Act}{w:World}{o:Oper}(ho:ops[i]?=some o)(hw:Region.wanted o (yielded ops a.tmps)=true)
 (h:∀K:Act->World->Prop,(∀a' w',S w'->wpTr P ops Q S r a' w'->K a' w')->o.wp P a w K Q):wpTr P ops Q S (.ef i r) a w:=by
 unfold wpTr wpOp
 simp only[ho,hw,if_true]
 exact .inl (h _ fun _ _ h1 h2=>⟨h1,h2⟩)
theorem wpTr_two{i j:Nat}{r q:Tr}{a:Act}{w:World}{o o2:Oper}(ho:ops[i]?=some o)(hw:Region.wanted o (yielded ops a.tmps)=true)(ho2:ops[j]?=some o2)(hw2:Region.wanted o2 (yielded ops a.tmps)=true)
 (h:∀K:Act->World->Prop,(∀a' w',S w'->wpTr P ops Q S r a' w'->K a' w')->o.wp P a w K Q)
 (h2:∀K:Act->World->Prop,(∀a' w',S w'->wpTr P ops Q S q a' w'->K a' w')->o2.wp P a w K Q):wpTr P ops Q S (.two i j r q) a w:=by
 unfold wpTr wpOp
 simp only[ho,hw,ho2,hw2,if_true]
 exact⟨.inl (h _ fun _ _ h1 h2=>⟨h1,h2⟩),.inl (h2 _ fun _ _ h1 h2=>⟨h1,h2⟩)⟩
theorem wpTr_nil{a:Act}{w:World}(h:Q .normal a w):wpTr P ops (Calm Q) S .nil a w:=h
end
end Go.Proofs.YtkiebccnpheloaaGreat
namespace Go.Proofs.YtkiebccnpheloaaGreat.D
open Go.RowKit Go.Lib Go.Shelf
open Go.RowKit Go.Lib Go.Shelf
theorem Got.below{Ow Ow':Nat->Ft}{w w':World}{b:Nat}(h:Got Ow Ow' w w')(hl:∀a k,Ow a k->b<=k)(hz:b<=w.heap.size):Below b w w':=h.2.below (fun k ⟨a,e⟩=>hl a k e) hz
theorem RdO5.act{o0:Nat}{w:World}{A:Option Addr}{c i:Nat}{l:List Op5}(h:RdO5 o0 w (.slice A l.length c) l)(hi:i<l.length):∃g off cv,A=some ⟨g,off,none⟩/\g<o0/\CIn o0 w cv l[i].B /\
 w.cell? ⟨g,off+i * 5,none⟩=some (.int .u8 l[i].kd)/\w.cell? ⟨g,off+i * 5+1,none⟩=some (.bool l[i].who)/\w.cell? ⟨g,off+i * 5+2,none⟩=some (.int .i64 l[i].v)/\w.cell? ⟨g,off+i * 5+3,none⟩=some (.int .u64 l[i].n)/\w.cell? ⟨g,off+i * 5+4,none⟩=some cv:=by
 obtain⟨_,A',c',e,_,_,hf⟩:=h
 injection e with e1 e2 e3
 subst e1
 obtain⟨g,off,rfl,hg,hj⟩:=hf (by omega)
 obtain⟨cv,h1,h2,h3,h4,h5,h6⟩:=hj i hi
 exact⟨g,off,cv,rfl,hg,h6,h1,h2,h3,h4,h5⟩
open Go.RowKit Go.Lib Go.Shelf
def actA(sp:Spk)(o:Op5)(s:Wn):Wn:=
 if o.kd % 9=5 then wtick sp (o.n % 4).toNat s
 else if o.kd % 9=6 then wtick sp o.n.toNat s
 else waddS sp o.B o.v o.n s 0
theorem actA_ok{sp:Spk}{n:Nat}{o:Op5}{s:Wn}(hs:SpOk sp)(hm:sp.small)(h0:0<n)(ho:o.fits)(h:WnOk sp n s):WnOk sp n (actA sp o s):=by
 obtain⟨_,_,v0,v1,n0,n1,_⟩:=ho
 unfold actA
 split
 ·exact wtick_ok hs h h0
 ·split
  ·exact wtick_ok hs h h0
  ·exact waddS_ok h h0 hm v0 v1 n0 n1
def doA(sp:Spk)(o:Op5)(S:Nat->Wn):Nat->Wn:=updN S (whoN o) (actA sp o (S (whoN o)))
theorem do_a{sp:Spk}{N o0 wb vb i j:Nat}{S:Nat->Wn}{X Y:Nat->Nat}{Ow:Nat->Ft}{w:World}{cv:Value}{B:List Int}(kd c:Nat)(who:Bool)(v:Int)(h6:kd % 9<=6)(oks:SpOk sp)(hsm:sp.small)(h0:0<N)(hbz:o0<=w.heap.size)(hD:Duo sp N o0 S S X Y Ow wb vb w)
 (hij:(who=false/\i=0/\j=1)\/(who=true/\i=1/\j=0)) (hkd:kd<=255) (hc:c<18446744073709551616) (v0:-9223372036854775808<=v) (v1:v<=9223372036854775807) (hB:CIn o0 w cv B) (hbt:K.Byt B) :
 Calls Tryz.prog 47 #[.slice (some ⟨wb,0,none⟩) 2 2,.slice (some ⟨vb,0,none⟩) 2 2,.agg #[.int .u8 kd,.bool who,.int .i64 v,.int .u64 c,cv]] w fun e w'=>e=.returned (.bool true)/\∃Ow',Duo sp N o0 (doA sp ⟨kd,who,v,c,B⟩ S) (doA sp ⟨kd,who,v,c,B⟩ S) X Y Ow' wb vb w'/\Got Ow Ow' w w':=by
 obtain⟨A4,c4,rfl,_,_,_⟩:=hB.rd.form
 have hi:i<2:=by omega
 have hj:j<2:=by omega
 have HFIN:Hid (∀s',actA sp ⟨kd,who,v,c,B⟩ (S i)=s'->updN S i s'=doA sp ⟨kd,who,v,c,B⟩ S):=Lib.hid (fun s' e=>by
  subst e
  unfold doA whoN
  rcases hij with⟨rfl,rfl,rfl⟩|⟨rfl,rfl,rfl⟩<;>rfl)
 have HOKA:Hid (WnOk sp N (actA sp ⟨kd,who,v,c,B⟩ (S i))):=Lib.hid (actA_ok oks hsm h0 ⟨by show(0:Int)<=(kd:Int);omega,by show(kd:Int)<=255;omega,v0,v1,by show(0:Int)<=(c:Int);omega,by show(c:Int)<18446744073709551616;omega,hbt.2⟩ (hD.ok i hi))
 have hbx:Below w.heap.size w (w.alloc (.cells #[.int .u8 kd,.bool who,.int .i64 v,.int .u64 c,(.slice A4 B.length c4)] 97)):=(Below.refl _ _).alloc (Nat.le_refl _) _
 have hzx:(w.alloc (.cells #[.int .u8 kd,.bool who,.int .i64 v,.int .u64 c,(.slice A4 B.length c4)] 97)).heap.size=w.heap.size+1:=by simp
 have hbl:=Blk.new w 97 #[.int .u8 kd,.bool who,.int .i64 v,.int .u64 c,(.slice A4 B.length c4)]
 have hD1:=hD.keep hbx
 have hB1:=hB.keep hbz (hbx.mono hbz)
 have hnb:∀a,¬Ow a w.heap.size:=fun a e=>by have:=(hD.low a _ e).2;omega
 have X0:=hD1.cw i hi
 have X1:=hD1.cw j hj
 have Y0:=hD1.cv i hi
 have Y1:=hD1.cv j hj
 have hmod:((kd:Int) % 9)=((kd % 9:Nat):Int):=by omega
 have hji:(1:Int) - (i:Int)=(j:Int):=by omega
 have hi2i:(i:Int)<2:=by omega
 have hj2i:(j:Int)<2:=by omega
 have HBX:=Lib.hid hbx
 have HNB:=Lib.hid hnb
 have HD1:=Lib.hid hD1
 have HB1:=Lib.hid hB1
 have HBZ:=Lib.hid hbz
 have HBT:=Lib.hid hbt
 have HZX:=Lib.hid hzx
 clear hD hD1 hB hB1 hbz hbt hbx hnb hzx
 go_enter Tryz.func47,Tryz.ntmps47
 go_upto_region 1 with fail
 obtain⟨u,hu⟩:∃u,w.alloc (.cells #[.int .u8 kd,.bool who,.int .i64 v,.int .u64 c,(.slice A4 B.length c4)] 97)=u:=⟨_,rfl⟩
 rw[hu] at HBX HD1 HB1 HZX X0 X1 Y0 Y1 hbl |-
 obtain⟨bx,hbxe⟩:∃bx,w.heap.size=bx:=⟨_,rfl⟩
 have HBE:=Lib.hid hbxe
 rw[hbxe] at hbl |-
 have f0:=hbl.cell 0
 have b1:=hbl.cell 1
 have f2:=hbl.cell 2
 have f3:=hbl.cell 3
 have f4:=hbl.cell 4
 have hbx:=hbl.lt
 simp only[List.getElem?_toArray,List.getElem?_cons_succ,List.getElem?_cons_zero] at f0 b1 f2 f3 f4
 have FO:Hid (Fours wb vb bx i j (X i) (X j) (Y i) (Y j) kd c who v (.slice A4 B.length c4) u):=Lib.hid ⟨X0,X1,Y0,Y1,f0,b1,f2,f3,f4⟩
 clear hu hbxe f0 f2 f3 f4 X0 X1 Y0 Y1 hbl
 go_upto_if 11 with(fail)
 go_cut [7] (fun x wx=>x=.int .i64 (i:Int)/\u=wx)
 case first=>
  rcases hij with⟨rfl,rfl,rfl⟩|⟨rfl,rfl,rfl⟩
  ·go_wp2_with fail
   go_meet
   exact⟨rfl,rfl⟩
  ·go_wp2_with fail
   go_meet
   exact⟨rfl,rfl⟩
 case rest=>
 obtain⟨rfl,rfl⟩:=hcut
 clear b1 hij
 have FIN:Hid (∀(wx:World) (cg dg:Nat) (H:Ft),Below u.heap.size u wx->CnAt (.pointer (some ⟨cg,0,none⟩)) B 0 H wx->RCnAt o0 (.pointer (some ⟨dg,0,none⟩)) B 0 (fun k=>k=dg) wx->(∀k,H k->u.heap.size<=k)->u.heap.size<=dg->(∀k,H k->k≠dg) ->
  Hid (CnAt (.pointer (some ⟨cg,0,none⟩)) B 0 H wx)/\Hid (DoAt sp N o0 S S X Y Ow Ow wb vb bx B (.pointer (some ⟨dg,0,none⟩)) H (fun k=>k=dg) w wx)/\Hid (Fours wb vb bx i j (X i) (X j) (Y i) (Y j) kd c who v (.slice A4 B.length c4) wx)):=Lib.hid (fun wx cg dg H hb hcn hrc hH hdg hne=>by
  have e1:=HBE.out
  have e2:=HZX.out
  have e3:=HBZ.out
  have hlo:=HD1.out.low
  have hcl:=hcn.low
  have hrl:=hrc.low dg rfl
  refine⟨Lib.hid hcn,Lib.hid ⟨HD1.out.keep hb,(Got.refl HBX.out).keep hb,fun k e=>?_,fun k e=>?_,fun k e e4=>hne k e e4,hrc,⟨by omega,by have:=hb.size;omega,fun a e=>HNB.out a (by rw[e1];exact e)⟩,e3⟩,Lib.hid ?_⟩
  ·have h1:=hH k e;have h2:=hcl k e
   exact⟨by omega,h2,fun a e6=>by have:=(hlo a k e6).2;omega⟩
  ·rw[show k=dg from e]
   exact⟨by omega,hrl,fun a e6=>by have:=(hlo a _ e6).2;omega⟩
  ·exact FO.out.same (fun k hk=>hb.block k (by
    simp only[List.mem_cons,List.not_mem_nil,or_false] at hk
    rcases hk with rfl|rfl|rfl
    ·exact(hlo 4 _ HD1.out.rw).2
    ·exact(hlo 4 _ HD1.out.rv).2
    ·exact hbx)))
 have HB1':Hid (∀wx,Below u.heap.size u wx->CIn o0 wx (.slice A4 B.length c4) B):=Lib.hid (fun wx hb=>HB1.out.keep (by have:=HZX.out;have:=HBZ.out;omega) (hb.mono (by have:=HZX.out;have:=HBZ.out;omega)))
 have ho0:o0<=u.heap.size:=by have:=HZX.out;have:=HBZ.out;omega
 clear HB1
 go_upto_region 4 with fail
 go_cut [8,9] (fun x y wx=>∃(cg dg:Nat) (H:Ft),x=.pointer (some ⟨cg,0,none⟩)/\y=.pointer (some ⟨dg,0,none⟩)/\Hid (CnAt (.pointer (some ⟨cg,0,none⟩)) B 0 H wx)/\Hid (DoAt sp N o0 S S X Y Ow Ow wb vb bx B (.pointer (some ⟨dg,0,none⟩)) H (fun k=>k=dg) w wx)/\Hid (Fours wb vb bx i j (X i) (X j) (Y i) (Y j) kd c who v (.slice A4 B.length c4) wx))
 case first=>
  refine wp_region_tree (fun w'=>Below u.heap.size u w') (.rd 0 (.rd 1 (.rd 3 (.rd 4 (.rd 5 (.two 2 6 (.rd 7 (.ef 6 (.rd 8 .nil))) (.ef 2 (.rd 7 (.rd 8 .nil))))))))) (by kernel_rfl) (by kernel_rfl) ((Below.refl _ _).drew) ?_
  iterate 5
   refine wpTr_read (by rfl) (by rfl) (fun R hR=>?_)
   apply Exists.intro
   refine⟨fun w' hS'=>?_,?_⟩
   ·have b4:=(hS'.cell (p:=⟨bx,4,none⟩) hbx).trans FO.out.o4
    go_simp
    exact⟨rfl,rfl⟩
   go_simp
   refine hR _ ?_
   clear hR R
  refine wpTr_two (by rfl) (by rfl) (by rfl) (by rfl) (fun K hK=>?_) (fun K hK=>?_)
  go_simp
  refine(coins_new (.slice A4 B.length c4) B _ (HB1'.out _ (Below.refl _ u).drew).rd HBT.out).mono ?_
  rintro e w1 ⟨cg,rfl,⟨H,hcn,hH⟩,hb1⟩
  have B1:Below u.heap.size u w1:=(Below.refl _ u).drew.trans hb1
  refine hK _ _ (B1) ?_
  clear hK K
  iterate 1
   refine wpTr_read (by rfl) (by rfl) (fun R hR=>?_)
   apply Exists.intro
   refine⟨fun w' hS'=>?_,?_⟩
   ·have b4:=(hS'.cell (p:=⟨bx,4,none⟩) hbx).trans FO.out.o4
    go_simp
    exact⟨rfl,rfl⟩
   go_simp
   refine hR _ ?_
   clear hR R
  refine wpTr_do (by rfl) (by rfl) (fun K hK=>?_)
  go_simp
  refine hK _ _ ((B1.alloc B1.size _)) ?_
  clear hK K
  iterate 1
   refine wpTr_read (by rfl) (by rfl) (fun R hR=>?_)
   apply Exists.intro
   refine⟨fun w' hS'=>?_,?_⟩
   ·have b4:=(hS'.cell (p:=⟨bx,4,none⟩) hbx).trans FO.out.o4
    go_simp
    exact⟨rfl,rfl⟩
   go_simp
   refine hR _ ?_
   clear hR R
  refine wpTr_nil ?_
  rotate_left
  go_simp
  have A1:Below u.heap.size u (u.drew.alloc (.cells #[(.slice A4 B.length c4),.int .i64 0] 69)):=(Below.refl _ u).drew.alloc (Nat.le_refl _) _
  refine hK _ _ (A1) ?_
  clear hK K
  refine wpTr_do (by rfl) (by rfl) (fun K hK=>?_)
  go_simp
  refine(coins_new (.slice A4 B.length c4) B _ (HB1'.out _ A1).rd HBT.out).mono ?_
  rintro e w1 ⟨cg,rfl,⟨H,hcn,hH⟩,hb1⟩
  have B1:Below u.heap.size u w1:=A1.trans (hb1.mono A1.size)
  refine hK _ _ (B1) ?_
  clear hK K
  iterate 2
   refine wpTr_read (by rfl) (by rfl) (fun R hR=>?_)
   apply Exists.intro
   refine⟨fun w' hS'=>?_,?_⟩
   ·have b4:=(hS'.cell (p:=⟨bx,4,none⟩) hbx).trans FO.out.o4
    go_simp
    exact⟨rfl,rfl⟩
   go_simp
   refine hR _ ?_
   clear hR R
  refine wpTr_nil ?_
  ·have hq:=rcoins_new (o:=o0) (HB1'.out u.drew (Below.refl _ u).drew).rd HBT.out ho0 (HB1'.out u.drew (Below.refl _ u).drew).own
   have hz1:(u.drew.alloc (.cells #[(.slice A4 B.length c4),.int .i64 0] 69)).heap.size=u.heap.size+1:=by simp
   have hq2:=hq.keep (by omega) hb1
   have hH2:∀k,H k->u.heap.size+1<=k:=fun k e=>by have:=hH k e;omega
   obtain⟨q1,q2,q3⟩:=FIN.out w1 cg u.heap.size H B1 hcn hq2 (fun k e=>by have:=hH2 k e;omega) (Nat.le_refl _) (fun k e=>by have:=hH2 k e;omega)
   go_wp2_with fail
   go_meet
   exact⟨cg,u.heap.size,H,rfl,rfl,q1,q2,q3⟩
  ·have hz1:=B1.size
   have hq:=rcoins_new (o:=o0) (HB1'.out w1 B1).rd HBT.out (by omega) (HB1'.out w1 B1).own
   have hb2:Below w1.heap.size w1 (w1.alloc (.cells #[(.slice A4 B.length c4),.int .i64 0] 69)):=(Below.refl _ _).alloc (Nat.le_refl _) _
   obtain⟨q1,q2,q3⟩:=FIN.out _ cg w1.heap.size H (B1.trans (hb2.mono hz1)) (hcn.keep hb2) hq (fun k e=>hH k e) hz1 (fun k e=>by have:=hcn.low k e;omega)
   go_wp2_with fail
   go_meet
   exact⟨cg,w1.heap.size,H,rfl,rfl,q1,q2,q3⟩
 case rest=>
 obtain⟨cg,dg,H,rfl,rfl,HCN,HD2,FO2⟩:=hcut
 have HD3:Hid (DoAt sp N o0 S S X Y Ow Ow wb vb bx B (.pointer (some ⟨dg,0,none⟩)) H (fun k=>k=dg) w wc.drew):=Lib.hid (HD2.out.keep (Below.refl _ _).drew)
 have HCN2:Hid (CnAt (.pointer (some ⟨cg,0,none⟩)) B 0 H wc.drew):=Lib.hid (HCN.out.keep (Below.refl _ _).drew)
 have FO3:Hid (Fours wb vb bx i j (X i) (X j) (Y i) (Y j) kd c who v (.slice A4 B.length c4) wc.drew):=Lib.hid (FO2.out.same (fun _ _=>rfl))
 have b0:=FO2.out.o0
 have hb2z:bx<wc.heap.size:=HD2.out.hb.2.1
 clear HCN HB1' HD1 HBX HZX HNB FO hbx HBE FIN
 have HOKI:=Lib.hid (HD2.out.du.ok i hi)
 have HDS:Hid (∀k,H k->¬Ow i k/\¬Ow j k):=Lib.hid (fun k e=>⟨(HD2.out.hH k e).2.2 i,(HD2.out.hH k e).2.2 j⟩)
 obtain⟨m,hm⟩:∃m,kd % 9=m:=⟨_,rfl⟩
 have hm9:m<=6:=by omega
 rw[hm] at hmod
 have HMD:Hid ((kd:Int) % 9=(m:Int)):=Lib.hid hmod
 clear hm
 by_cases e5:m=5
 ·subst e5
  have HACT:Hid (actA sp ⟨kd,who,v,c,B⟩ (S i)=wtick sp (c % 4) (S i)):=Lib.hid (by
   unfold actA
   show(if (kd:Int) % 9=5 then _ else _)=_
   rw[HMD.out]
   rw[if_pos (by decide)];show wtick sp ((c:Int) % 4).toNat (S i)=_;rw[show((c:Int) % 4).toNat=c % 4 by omega])
  have HOK:Hid (WnOk sp N (wtick sp (c % 4) (S i))):=Lib.hid (by rw[<-HACT.out];exact HOKA.out)
  have CT:=Lib.hid (win_tick (c % 4) wc.drew oks (HD3.out.du.win i hi) HOKI.out.now (by omega))
  have hn4:(c:Int) % 4=((c % 4:Nat):Int):=by omega
  go_upto_region 7 with fail
  refine wp_region_planT (fun w'=>w'=wc.drew) 7 [(0,true),(1,true),(2,true),(3,true),(4,true),(5,true),(6,true)] (by kernel_rfl) (by kernel_rfl) (rfl) ?_
  iterate 7
   refine wpPlanT_read (by rfl) (by rfl) (fun R hR=>?_)
   apply Exists.intro
   refine⟨fun w' hS'=>?_,?_⟩
   ·subst hS'
    have z0:=FO3.out.p0
    have z2:=FO3.out.o3
    go_simp
    exact⟨rfl,rfl⟩
   go_simp
   refine hR _ ?_
   clear hR R
  refine wpPlanT_nil ?_
  simp only[List.drop_succ_cons,List.drop_zero]
  go_wp2_with fail
  try rw[hn4]
  refine(CT.out).mono ?_
  rintro e w6 ⟨rfl,t1,t2⟩
  have T2:Touch (fun k=>Ow i k\/H k) wc.drew w6:=t2.mono (fun k e=>.inl e)
  have D6:=Lib.hid (HD3.out.turnS hi t1 HOK.out T2)
  have F6:Hid (Fours wb vb bx i j (X i) (X j) (Y i) (Y j) kd c who v (.slice A4 B.length c4) w6):=Lib.hid (FO3.out.same (HD3.out.sameS hi T2))
  have D7:=Lib.hid (D6.out.keep (Below.refl _ _).drew)
  have F7:Hid (Fours wb vb bx i j (X i) (X j) (Y i) (Y j) kd c who v (.slice A4 B.length c4) w6.drew):=Lib.hid (F6.out.same (fun _ _=>rfl))
  clear t1 t2 T2 CT b0
  have CR:=Lib.hid (rwin_tick (c % 4) w6.drew oks (D7.out.du.ref i hi) HOKI.out.now (by omega))
  go_wp2_with fail
  try refine calm_normal ?_
  go_upto_region 8 with fail
  refine wp_region_planT (fun w'=>w'=w6.drew) 7 [(0,true),(1,true),(2,true),(3,true),(4,true),(5,true),(6,true)] (by kernel_rfl) (by kernel_rfl) (rfl) ?_
  iterate 7
   refine wpPlanT_read (by rfl) (by rfl) (fun R hR=>?_)
   apply Exists.intro
   refine⟨fun w' hS'=>?_,?_⟩
   ·subst hS'
    have z0:=F7.out.q0
    have z2:=F7.out.o3
    go_simp
    exact⟨rfl,rfl⟩
   go_simp
   refine hR _ ?_
   clear hR R
  refine wpPlanT_nil ?_
  simp only[List.drop_succ_cons,List.drop_zero]
  go_wp2_with fail
  try rw[hn4]
  refine(CR.out).mono ?_
  rintro e w8 ⟨rfl,t1,t2⟩
  have DD:=Lib.hid (D7.out.turnR hi t1 HOK.out (t2.mono (fun k e=>.inl e)))
  clear t1 t2 CR
  go_wp2_with fail
  try refine calm_normal ?_
  go_wp2_with fail
  refine bodyPost_ret (by simp[results,Tryz.results47,go_sem, *];try rfl) rfl ?_
  rw[<-HFIN.out _ HACT.out]
  exact⟨rfl,_,DD.out.1,DD.out.2⟩
 by_cases e6:m=6
 ·subst e6
  have HACT:Hid (actA sp ⟨kd,who,v,c,B⟩ (S i)=wtick sp (c) (S i)):=Lib.hid (by
   unfold actA
   show(if (kd:Int) % 9=5 then _ else _)=_
   rw[HMD.out]
   rw[if_neg (by decide),if_pos (by decide)];show wtick sp (c:Int).toNat (S i)=_;rw[Int.toNat_natCast])
  have HOK:Hid (WnOk sp N (wtick sp (c) (S i))):=Lib.hid (by rw[<-HACT.out];exact HOKA.out)
  have CT:=Lib.hid (win_tick (c) wc.drew oks (HD3.out.du.win i hi) HOKI.out.now (by omega))
  have hn4:(c:Int) % 4=((c % 4:Nat):Int):=by omega
  go_upto_region 11 with fail
  refine wp_region_planT (fun w'=>w'=wc.drew) 6 [(0,true),(1,true),(2,true),(3,true),(4,true),(5,true)] (by kernel_rfl) (by kernel_rfl) (rfl) ?_
  iterate 6
   refine wpPlanT_read (by rfl) (by rfl) (fun R hR=>?_)
   apply Exists.intro
   refine⟨fun w' hS'=>?_,?_⟩
   ·subst hS'
    have z0:=FO3.out.p0
    have z2:=FO3.out.o3
    go_simp
    exact⟨rfl,rfl⟩
   go_simp
   refine hR _ ?_
   clear hR R
  refine wpPlanT_nil ?_
  simp only[List.drop_succ_cons,List.drop_zero]
  go_wp2_with fail
  try rw[hn4]
  refine(CT.out).mono ?_
  rintro e w6 ⟨rfl,t1,t2⟩
  have T2:Touch (fun k=>Ow i k\/H k) wc.drew w6:=t2.mono (fun k e=>.inl e)
  have D6:=Lib.hid (HD3.out.turnS hi t1 HOK.out T2)
  have F6:Hid (Fours wb vb bx i j (X i) (X j) (Y i) (Y j) kd c who v (.slice A4 B.length c4) w6):=Lib.hid (FO3.out.same (HD3.out.sameS hi T2))
  have D7:=Lib.hid (D6.out.keep (Below.refl _ _).drew)
  have F7:Hid (Fours wb vb bx i j (X i) (X j) (Y i) (Y j) kd c who v (.slice A4 B.length c4) w6.drew):=Lib.hid (F6.out.same (fun _ _=>rfl))
  clear t1 t2 T2 CT b0
  have CR:=Lib.hid (rwin_tick (c) w6.drew oks (D7.out.du.ref i hi) HOKI.out.now (by omega))
  go_wp2_with fail
  try refine calm_normal ?_
  go_upto_region 12 with fail
  refine wp_region_planT (fun w'=>w'=w6.drew) 6 [(0,true),(1,true),(2,true),(3,true),(4,true),(5,true)] (by kernel_rfl) (by kernel_rfl) (rfl) ?_
  iterate 6
   refine wpPlanT_read (by rfl) (by rfl) (fun R hR=>?_)
   apply Exists.intro
   refine⟨fun w' hS'=>?_,?_⟩
   ·subst hS'
    have z0:=F7.out.q0
    have z2:=F7.out.o3
    go_simp
    exact⟨rfl,rfl⟩
   go_simp
   refine hR _ ?_
   clear hR R
  refine wpPlanT_nil ?_
  simp only[List.drop_succ_cons,List.drop_zero]
  go_wp2_with fail
  try rw[hn4]
  refine(CR.out).mono ?_
  rintro e w8 ⟨rfl,t1,t2⟩
  have DD:=Lib.hid (D7.out.turnR hi t1 HOK.out (t2.mono (fun k e=>.inl e)))
  clear t1 t2 CR
  go_wp2_with fail
  try refine calm_normal ?_
  go_wp2_with fail
  refine bodyPost_ret (by simp[results,Tryz.results47,go_sem, *];try rfl) rfl ?_
  rw[<-HFIN.out _ HACT.out]
  exact⟨rfl,_,DD.out.1,DD.out.2⟩
 have e7:¬m=7:=by omega
 have e8:¬m=8:=by omega
 have HACT:Hid (actA sp ⟨kd,who,v,c,B⟩ (S i)=waddS sp B v c (S i) 0):=Lib.hid (by
  unfold actA
  show(if (kd:Int) % 9=5 then _ else _)=_
  rw[HMD.out,if_neg (by omega),if_neg (by omega)])
 have HOK:Hid (WnOk sp N (waddS sp B v c (S i) 0)):=Lib.hid (by rw[<-HACT.out];exact HOKA.out)
 have CT:=Lib.hid (win_add v c wc.drew (HD3.out.du.win i hi) HOKI.out.each HCN2.out (fun _ e=>by cases e) (fun k e=>(HDS.out k e).1) v0 v1 (by omega) (by omega))
 obtain⟨er,her⟩:∃q,waddE sp (S i) v c=q:=⟨_,rfl⟩
 rw[her] at CT
 have HER:=Lib.hid her
 have hee:(er == er)=true:=by simp
 clear her
 obtain⟨v3,rs,Or,G3,r1,rFz,rGF,rF⟩:=HD3.out.du.ref i hi
 have hlL:(S i).L.length=N:=HOKI.out.len
 obtain⟨g3,c3,rfl,hg3,_,_,hG3,hrow,rcell⟩:=r1.ring.pos r1.pos
 have R1:=Lib.hid r1
 have y7:wc.drew.cell? ⟨Y i,7,none⟩=_:=r1.c7
 have y0:wc.drew.cell? ⟨g3,0,none⟩=_:=rcell 0 (by omega)
 rw[hlL] at y7
 have HG:Hid (Ow (2+i) (Y i)/\Ow (2+i) g3/\¬Or 0 g3/\¬Or 0 (Y i)/\(∀k,Or 0 k->Ow (2+i) k)):=Lib.hid ⟨rFz,rGF _ hG3,hrow 0,fun e=>r1.out (r1.ring.inn _ _ e),fun k e=>rGF _ (r1.ring.inn _ _ e)⟩
 have HL:=Lib.hid hlL
 have HRF:=Lib.hid (And.intro rGF rF)
 have hN0:(0:Int)<(N:Int):=by omega
 have YY:Hid (wc.drew.cell? ⟨Y i,7,none⟩=some (.slice (some ⟨g3,0,none⟩) N c3)/\wc.drew.cell? ⟨g3,0,none⟩=some (.pointer (some ⟨rs.getD 0 0,0,none⟩))):=Lib.hid ⟨y7,y0⟩
 clear r1 rcell y7 y0 rFz rGF rF hG3 hrow hlL hg3
 go_upto_region 18 with fail
 clear b0
 refine wp_region_plan (fun w'=>Fours wb vb bx i j (X i) (X j) (Y i) (Y j) kd c who v (.slice A4 B.length c4) w'/\w'.cell? ⟨Y i,7,none⟩=some (.slice (some ⟨g3,0,none⟩) N c3)/\w'.cell? ⟨g3,0,none⟩=some (.pointer (some ⟨rs.getD 0 0,0,none⟩))) [(0,true),(1,true),(2,true),(3,true),(4,true),(5,true),(6,true),(7,true),(8,true),(10,true),(11,true),(12,true),(13,true),(14,true),(15,true),(16,true),(17,true),(18,true),(19,true),(20,true),(21,true),(22,true),(23,true),(9,false),(24,false),(25,true),(26,true)] (by kernel_rfl) (by kernel_rfl) (⟨FO3.out,YY.out⟩) ?_
 iterate 23
  refine wpPlan_read (by rfl) (by rfl) (fun R hR=>?_)
  apply Exists.intro
  refine⟨fun w' hS'=>?_,?_⟩
  ·have z0:=hS'.1.p0
   have z2:=hS'.1.q0
   have z4:=hS'.1.o2
   have z5:=hS'.1.o3
   have z6:=hS'.2.1
   have z7:=hS'.2.2
   go_simp
   exact⟨rfl,rfl⟩
  go_simp
  refine hR _ ?_
  clear hR R
 refine wpPlan_do (by rfl) (by rfl) (fun K hK=>?_)
 go_simp
 refine(CT.out).mono ?_
 rintro e w6 hm
 obtain⟨rfl,hm1,hm2,hm3⟩:=hm
 have D6:=Lib.hid (HD3.out.turnS hi hm1 HOK.out hm3)
 have F6:Hid (Fours wb vb bx i j (X i) (X j) (Y i) (Y j) kd c who v (.slice A4 B.length c4) w6):=Lib.hid (FO3.out.same (HD3.out.sameS hi hm3))
 have BK:Hid (∀k,Ow (2+i) k->w6.heap[k]?=wc.drew.heap[k]?):=Lib.hid (fun k e=>hm3.block k (HD3.out.du.low _ k e).2 (fun e2=>e2.elim (fun e3=>by have:=HD3.out.du.uniq _ _ k e e3;omega) (fun e3=>(HD3.out.hH k e3).2.2 _ e)))
 have R6:Hid (RWinB sp (S i).now (S i).L (.slice (some ⟨g3,0,none⟩) (S i).L.length c3) rs Or G3 (Y i) w6):=Lib.hid (R1.out.stay (BK.out _ HG.out.1) (fun k e=>BK.out k (HRF.out.1 k e)) hm3.size)
 have Y6:Hid (w6.cell? ⟨Y i,7,none⟩=some (.slice (some ⟨g3,0,none⟩) N c3)/\w6.cell? ⟨g3,0,none⟩=some (.pointer (some ⟨rs.getD 0 0,0,none⟩))):=Lib.hid ⟨(World.cell?_of_block (a:=⟨Y i,7,none⟩) (BK.out _ HG.out.1)).trans YY.out.1,(World.cell?_of_block (a:=⟨g3,0,none⟩) (BK.out _ HG.out.2.1)).trans YY.out.2⟩
 clear hm1 hm2 hm3
 refine hK _ _ (⟨F6.out,Y6.out⟩) ?_
 clear hK K
 refine wpPlan_do (by rfl) (by rfl) (fun K hK=>?_)
 go_simp
 refine(rjs_add v c w6 (R6.out.js (i:=0) (by have:=HL.out;omega)) (HOKI.out.at_ (by have:=HL.out;omega)) D6.out.rc (fun k e e2=>(D6.out.hR k e).2.2 (2+i) (by rw[updF_ne (by omega)];exact HG.out.2.2.2.2 k e2)) (by have:=D6.out.got.2.size;have:=D6.out.bz;omega) (fun k e=>(HD3.out.du.low _ k (HG.out.2.2.2.2 k e)).1) v0 v1 (by omega) (by omega)).mono ?_
 rintro e w8 hm
 obtain⟨rfl,hm1,hm2,hm3⟩:=hm
 rw[show jadE sp ((S i).L.getD 0 sp.new) v c=er from HER.out]
 have TN:=Lib.hid (rwin_turn (s:=S i) (F:=Ow (2+i)) R6.out HG.out.1 HRF.out.1 (fun k e=>by have:=D6.out.du.low (2+i) k (by rw[updF_ne (by omega)];exact e);exact this.2) (by have:=HL.out;omega) hm1 hm3 (fun k e e2=>(D6.out.hR k e).2.2 (2+i) (by rw[updF_ne (by omega)];exact e2)))
 have F8:Hid (Fours wb vb bx i j (X i) (X j) (Y i) (Y j) kd c who v (.slice A4 B.length c4) w8):=Lib.hid (F6.out.same (D6.out.sameR hi (by rw[updF_ne (by omega)];exact TN.out.2)))
 have Y8:Hid (w8.cell? ⟨Y i,7,none⟩=some (.slice (some ⟨g3,0,none⟩) N c3)/\w8.cell? ⟨g3,0,none⟩=some (.pointer (some ⟨rs.getD 0 0,0,none⟩))):=Lib.hid ⟨(World.cell?_of_block (a:=⟨Y i,7,none⟩) (hm3.block _ R6.out.blk.lt (fun e2=>e2.elim HG.out.2.2.2.1 (fun e3=>(D6.out.hR _ e3).2.2 (2+i) (by rw[updF_ne (by omega)];exact HG.out.1))))).trans Y6.out.1,(World.cell?_of_block (a:=⟨g3,0,none⟩) (hm3.block _ (R6.out.ring.low _ (R6.out.ring.rowF _ rfl).1) (fun e2=>e2.elim HG.out.2.2.1 (fun e3=>(D6.out.hR _ e3).2.2 (2+i) (by rw[updF_ne (by omega)];exact HG.out.2.1))))).trans Y6.out.2⟩
 have DD:Hid _:=Lib.hid (D6.out.turnR (s':=waddS sp B v c (S i) 0) hi (by rw[updF_ne (by omega)];exact TN.out.1) HOK.out (by rw[updF_ne (by omega)];exact TN.out.2))
 clear hm1 hm2 hm3
 refine hK _ _ (⟨F8.out,Y8.out⟩) ?_
 clear hK K
 iterate 2
  refine wpPlan_read (by rfl) (by rfl) (fun R hR=>?_)
  apply Exists.intro
  refine⟨fun w' hS'=>?_,?_⟩
  ·have z0:=hS'.1.p0
   have z2:=hS'.1.q0
   have z4:=hS'.1.o2
   have z5:=hS'.1.o3
   have z6:=hS'.2.1
   have z7:=hS'.2.2
   go_simp
   exact⟨rfl,rfl⟩
  go_simp
  refine hR _ ?_
  clear hR R
 refine wpPlan_nil ?_
 try refine calm_normal ?_
 go_wp2_with fail
 refine bodyPost_ret (by simp[results,Tryz.results47,go_sem, *];try rfl) rfl ?_
 rw[<-HFIN.out _ HACT.out]
 exact⟨by simp,_,DD.out.1,DD.out.2⟩
theorem do30A_any{sp:Spk}{N o0 wb vb:Nat}{S:Nat->Wn}{X Y:Nat->Nat}{Ow:Nat->Ft}{w:World}{cv:Value}(o:Op5)(h6:o.kd % 9<=6)(oks:SpOk sp)(hsm:sp.small)(h0:0<N)(hbz:o0<=w.heap.size)(hD:Duo sp N o0 S S X Y Ow wb vb w)(ho:o.fits)(hB:CIn o0 w cv o.B)(hlen:o.B.length<=200) :
 Calls Tryz.prog 47 #[.slice (some ⟨wb,0,none⟩) 2 2,.slice (some ⟨vb,0,none⟩) 2 2,.agg #[.int .u8 o.kd,.bool o.who,.int .i64 o.v,.int .u64 o.n,cv]] w fun e w'=>e=.returned (.bool true)/\∃Ow',Duo sp N o0 (doA sp o S) (doA sp o S) X Y Ow' wb vb w'/\Got Ow Ow' w w':=by
 obtain⟨kd,who,v,n,B⟩:=o
 obtain⟨k0,k1,v0,v1,n0,n1,hb⟩:=ho
 simp only at h6 k0 k1 v0 v1 n0 n1 hb hB hlen |-
 obtain⟨kd,rfl⟩:∃q:Nat,kd=(q:Int):=⟨kd.toNat,by omega⟩
 obtain⟨n,rfl⟩:∃q:Nat,n=(q:Int):=⟨n.toNat,by omega⟩
 cases who with
 | false=>exact do_a (i:=0) (j:=1) kd n false v (by omega) oks hsm h0 hbz hD (.inl ⟨rfl,rfl,rfl⟩) (by omega) (by omega) v0 v1 hB ⟨by omega,hb⟩
 | true=>exact do_a (i:=1) (j:=0) kd n true v (by omega) oks hsm h0 hbz hD (.inr ⟨rfl,rfl,rfl⟩) (by omega) (by omega) v0 v1 hB ⟨by omega,hb⟩
end Go.Proofs.YtkiebccnpheloaaGreat.D
