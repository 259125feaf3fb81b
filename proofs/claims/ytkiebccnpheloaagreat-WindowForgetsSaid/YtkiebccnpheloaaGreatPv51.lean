/- Parts of a proof: what its theorem reaches, words cut short. No condition of its own. -/
import Derived.Test.YtkiebccnpheloaaGreatPv50
set_option maxRecDepth 100000
set_option maxHeartbeats 16000000
set_option linter.unusedVariables false
set_option linter.unusedSimpArgs false
namespace Go.Proofs.YtkiebccnpheloaaGreat.D
open Go.RowKit Go.Lib Go.Shelf
structure Lv2(W:World)(sp:Spk)(N:Nat)(S R T U:Nat->Wn)(X Y X2 Y2:Nat->Nat)(wb vb fb ub:Nat)(w:World):Prop where
 duo:∃Ow O2,Duo sp N W.heap.size S R X Y Ow wb vb w/\Duo sp N W.heap.size T U X2 Y2 O2 fb ub w/\∀a b k,Ow a k->¬O2 b k
 below:Below W.heap.size W w
section
variable {W w w' : World} {sp : Spk} {N : Nat} {S R T U : Nat -> Wn} {X Y X2 Y2 : Nat -> Nat} {wb vb fb ub : Nat}
theorem Lv2.swap(h:Lv2 W sp N S R T U X Y X2 Y2 wb vb fb ub w):Lv2 W sp N T U S R X2 Y2 X Y fb ub wb vb w:=by
 obtain⟨⟨Ow,O2,h1,h2,h3⟩,hb⟩:=h
 exact⟨⟨O2,Ow,h2,h1,fun a b k e1 e2=>h3 b a k e2 e1⟩,hb⟩
theorem Lv2.keep(h:Lv2 W sp N S R T U X Y X2 Y2 wb vb fb ub w)(hb:Below w.heap.size w w'):Lv2 W sp N S R T U X Y X2 Y2 wb vb fb ub w':=by
 obtain⟨⟨Ow,O2,h1,h2,h3⟩,hb2⟩:=h
 exact⟨⟨Ow,O2,h1.keep hb,h2.keep hb,h3⟩,hb2.trans (hb.mono hb2.size)⟩
theorem Lv2.got{Ow O2 O':Nat->Ft}{S' R':Nat->Wn}(h2:Duo sp N W.heap.size T U X2 Y2 O2 fb ub w)(h3:∀a b k,Ow a k->¬O2 b k)(hl:∀a k,Ow a k->W.heap.size<=k)(hb:Below W.heap.size W w)(hd:Duo sp N W.heap.size S' R' X Y O' wb vb w')(g:Got Ow O' w w') :
 Lv2 W sp N S' R' T U X Y X2 Y2 wb vb fb ub w':=by
 obtain⟨q1,q2⟩:=h2.far g (fun a b k e1 e2=>h3 b a k e2 e1)
 exact⟨⟨O',O2,hd,q1,fun a b k e1 e2=>q2 b a k e2 e1⟩,hb.trans (g.below hl hb.size)⟩
theorem Lv2.act{cv:Value}(h:Lv2 W sp N S S T U X Y X2 Y2 wb vb fb ub w)(o:Op5)(h6:o.kd % 9<=6)(oks:SpOk sp)(hsm:sp.small)(h0:0<N)(ho:o.fits)(hB:CIn W.heap.size w cv o.B)(hlen:o.B.length<=200) :
 Calls Tryz.prog 47 #[.slice (some ⟨wb,0,none⟩) 2 2,.slice (some ⟨vb,0,none⟩) 2 2,.agg #[.int .u8 o.kd,.bool o.who,.int .i64 o.v,.int .u64 o.n,cv]] w fun e w'=>e=.returned (.bool true)/\Lv2 W sp N (doA sp o S) (doA sp o S) T U X Y X2 Y2 wb vb fb ub w':=by
 obtain⟨⟨Ow,O2,h1,h2,h3⟩,hb⟩:=h
 refine(do30A_any o h6 oks hsm h0 hb.size h1 ho hB hlen).mono ?_
 rintro e w' ⟨rfl,O',d,g⟩
 exact⟨rfl,Lv2.got h2 h3 (fun a k e=>(h1.low a k e).1) hb d g⟩
theorem Lv2.act2{w0:World}{cv:Value}(h:Lv2 W sp N S S T U X Y X2 Y2 wb vb fb ub w0)(hw:Below w0.heap.size w0 w)(o:Op5)(h6:o.kd % 9<=6)(oks:SpOk sp)(hsm:sp.small)(h0:0<N)(ho:o.fits)(hB:CIn W.heap.size w cv o.B)(hlen:o.B.length<=200) :
 Calls Tryz.prog 47 #[.slice (some ⟨wb,0,none⟩) 2 2,.slice (some ⟨vb,0,none⟩) 2 2,.agg #[.int .u8 o.kd,.bool o.who,.int .i64 o.v,.int .u64 o.n,cv]] w fun e w'=>e=.returned (.bool true)/\Lv2 W sp N (doA sp o S) (doA sp o S) T U X Y X2 Y2 wb vb fb ub w'/\∀k,w0.heap.size<=k->k<w.heap.size->w'.heap[k]?=w.heap[k]?:=by
 obtain⟨⟨Ow,O2,h1,h2,h3⟩,hb⟩:=h
 have hb2:=hb.trans (hw.mono hb.size)
 refine(do30A_any o h6 oks hsm h0 hb2.size (h1.keep hw) ho hB hlen).mono ?_
 rintro e w' ⟨rfl,O',d,g⟩
 exact⟨rfl,Lv2.got (h2.keep hw) h3 (fun a k e=>(h1.low a k e).1) hb2 d g,fun k k1 k2=>g.2.block k k2 (fun⟨a,e⟩=>by have:=(h1.low a k e).2;omega)⟩
theorem Lv2.tickS(n:Nat)(h:Lv2 W sp N S R T U X Y X2 Y2 wb vb fb ub w)(oks:SpOk sp)(h0:0<N)(hn:n<18446744073709551616) :
 Calls Tryz.prog 49 #[.pointer (some ⟨X 0,0,none⟩),.int .u64 n] w fun e w'=>e=.returned (.tuple #[])/\Lv2 W sp N (updN S 0 (wtick sp n (S 0))) R T U X Y X2 Y2 wb vb fb ub w':=by
 obtain⟨⟨Ow,O2,h1,h2,h3⟩,hb⟩:=h
 refine(win_tick n w oks (h1.win 0 (by decide)) (h1.ok 0 (by decide)).now hn).mono ?_
 rintro e w' ⟨rfl,t1,t2⟩
 have t3:Touch (fun k=>Ow 0 k\/False) w w':=t2.mono fun k e=>.inl e
 exact⟨rfl,Lv2.got h2 h3 (fun a k e=>(h1.low a k e).1) hb (h1.turnS (H:=fun _=>False) (by decide) hb.size t1 (wtick_ok oks (h1.ok 0 (by decide)) h0) t3 (fun k e=>e.elim)) ((Got.refl (Below.refl _ _)).step (H:=fun _=>False) t3 (fun k e=>e.elim))⟩
theorem Lv2.tickR(n:Nat)(h:Lv2 W sp N S R T U X Y X2 Y2 wb vb fb ub w)(oks:SpOk sp)(h0:0<N)(hn:n<18446744073709551616) :
 Calls Tryz.prog 50 #[.pointer (some ⟨Y 0,0,none⟩),.int .u64 n] w fun e w'=>e=.returned (.tuple #[])/\Lv2 W sp N S (updN R 0 (wtick sp n (R 0))) T U X Y X2 Y2 wb vb fb ub w':=by
 obtain⟨⟨Ow,O2,h1,h2,h3⟩,hb⟩:=h
 refine(rwin_tick n w oks (h1.ref 0 (by decide)) (h1.rok 0 (by decide)).now hn).mono ?_
 rintro e w' ⟨rfl,t1,t2⟩
 have t3:Touch (fun k=>Ow (2+0) k\/False) w w':=t2.mono fun k e=>.inl e
 exact⟨rfl,Lv2.got h2 h3 (fun a k e=>(h1.low a k e).1) hb (h1.turnR (H:=fun _=>False) (by decide) hb.size t1 (wtick_ok oks (h1.rok 0 (by decide)) h0) t3 (fun k e=>e.elim)) ((Got.refl (Below.refl _ _)).step (H:=fun _=>False) t3 (fun k e=>e.elim))⟩
theorem Lv2.see(h:Lv2 W sp N S R T U X Y X2 Y2 wb vb fb ub w):(∃F,WinAt sp (S 0) (X 0) F w)/\(∃F,RWinAt sp (R 0) (Y 0) F w)/\WnOk sp N (S 0)/\WnOk sp N (R 0)/\w.cell? ⟨wb,0,none⟩=some (.pointer (some ⟨X 0,0,none⟩))/\w.cell? ⟨vb,0,none⟩=some (.pointer (some ⟨Y 0,0,none⟩))/\wb<w.heap.size/\vb<w.heap.size:=by
 obtain⟨⟨Ow,O2,h1,h2,h3⟩,hb⟩:=h
 exact⟨⟨_,h1.win 0 (by decide)⟩,⟨_,h1.ref 0 (by decide)⟩,h1.ok 0 (by decide),h1.rok 0 (by decide),h1.cw 0 (by decide),h1.cv 0 (by decide),(h1.low 4 _ h1.rw).2,(h1.low 4 _ h1.rv).2⟩
theorem Lv2.now(h:Lv2 W sp N S R T U X Y X2 Y2 wb vb fb ub w):Calls Tryz.prog 48 #[.pointer (some ⟨X 0,0,none⟩)] w fun e w'=>e=.returned (.int .u64 (S 0).now)/\w=w':=by
 obtain⟨⟨F,a0,C,v,ps,Ow,G1,h2,hL,_⟩,_⟩:=h.see
 exact win_now w h2
theorem Lv2.rnow(h:Lv2 W sp N S R T U X Y X2 Y2 wb vb fb ub w):w.cell? ⟨Y 0,8,none⟩=some (.int .u64 (R 0).now)/\Y 0<w.heap.size:=by
 obtain⟨_,⟨F,u,rs,Or,G3,r1,_⟩,_⟩:=h.see
 exact⟨r1.c8,r1.blk.lt⟩
end
theorem doA_zero{sp:Spk}{o:Op5}{S T:Nat->Wn}(hw:o.who=false)(e:S 0=T 0):doA sp o S 0=doA sp o T 0:=by
 unfold doA
 have:whoN o=0:=by unfold whoN;rw[hw];rfl
 rw[this,updN_at,updN_at,e]
open Go.RowKit Go.Lib Go.Shelf
open Go.RowKit Go.Lib Go.Shelf
theorem wtot_zero(sp:Spk)(s:Wn):wtot sp s 0=0/\wtot sp s (-3)=0/\wtot sp s (s.L.length+1)=0:=by
 unfold wtot
 refine⟨?_,?_,?_⟩
 ·rw[if_neg (by omega)];rfl
 ·rw[if_neg (by omega)];rfl
 ·rw[if_pos (by omega)]
theorem same30_c{sp:Spk}{s:Wn}{N x y:Nat}{F G:Ft}{kd lo hi dg ac sz:Int}{gr:Bool}(hv:sp.v=specV kd lo hi dg gr ac sz)(hcs:sp.cs=[.int .u8 kd,.int .i64 lo,.int .i64 hi,.int .i64 dg,.bool gr,.int .i64 ac,.int .i64 sz])(w:World)(h:WinAt sp s x F w)(h2:RWinAt sp s y G w)(ok:WnOk sp N s) :
 Calls Tryz.prog 44 #[.pointer (some ⟨x,0,none⟩),.pointer (some ⟨y,0,none⟩)] w fun e w'=>e=.returned (.bool true)/\Below w.heap.size w w':=by
 obtain⟨a0,C,v,ps,Ow,G1,h1,hL,_⟩:=h
 obtain⟨u,rs,Or,G3,r1,_⟩:=h2
 have hN:s.L.length=N:=ok.len
 have hC:C.length=N:=by rw[<-hN,hL,rot_length]
 have h60:N<=60:=by rw[<-hN];exact r1.n60
 have hpos:0<N:=by rw[<-hN];exact r1.pos
 have XS:=Lib.hid (fun W (hb:Below w.heap.size w W)=>win_spec W (h1.keep hb))
 have XL:=Lib.hid (fun W (hb:Below w.heap.size w W)=>win_slots W (h1.keep hb))
 have XN:=Lib.hid (fun W (hb:Below w.heap.size w W)=>win_now W (h1.keep hb))
 have XX:=Lib.hid (fun W (hb:Below w.heap.size w W) a (ha:a<N)=>win_text a W (h1.keep hb) hL ok.each (by omega))
 have XB:=Lib.hid (fun W (hb:Below w.heap.size w W) (a:Int) (ha:a<0\/(N:Int)<=a)=>win_text_no a W (h1.keep hb) (by omega))
 have XT:=Lib.hid (fun W (hb:Below w.heap.size w W) (a:Int)=>win_total a W (h1.keep hb) hL ok.each)
 have XY:=Lib.hid (fun W (hb:Below w.heap.size w W) a (ha:a<s.L.length)=>rjs_text W ((r1.keep hb).js ha) (ok.at_ ha))
 have XU:=Lib.hid (fun W (hb:Below w.heap.size w W) (a:Int)=>rwin_total a W (r1.keep hb) ok.each)
 obtain⟨g3,c3,rfl,hg3,_,_,_,_,rcell⟩:=r1.ring.pos r1.pos
 have RCL:=Lib.hid rcell
 have hB:=r1.blk
 have ly:=hB.lt
 rw[hcs] at hB
 have f0:=hB.cell 0
 have f1:=hB.cell 1
 have f2:=hB.cell 2
 have f3:=hB.cell 3
 have f4:=hB.cell 4
 have f5:=hB.cell 5
 have f6:=hB.cell 6
 simp only[List.cons_append,List.nil_append,List.getElem?_toArray,List.getElem?_cons_zero,List.getElem?_cons_succ] at f0 f1 f2 f3 f4 f5 f6
 have f7:w.cell? ⟨y,7,none⟩=_:=r1.c7
 have f8:w.cell? ⟨y,8,none⟩=_:=r1.c8
 rw[hN] at f7
 have FF:=Lib.hid (And.intro f0 (And.intro f1 (And.intro f2 (And.intro f3 (And.intro f4 (And.intro f5 (And.intro f6 (And.intro f7 f8))))))))
 rw[hv] at XS
 unfold specV at XS
 rw[hC] at XL
 have HN:=Lib.hid hN
 have ZT:=wtot_zero sp s
 rw[hN] at ZT
 have HZT:=Lib.hid ZT
 obtain⟨nw,hnw⟩:∃q:Int,(s.now:Int)=q:=⟨_,rfl⟩
 rw[hnw] at XN FF
 have hnn:(nw == nw)=true:=by simp
 have hNN:((N:Int) == (N:Int))=true:=by simp
 clear h1 r1 hL hB hv hcs ok rcell hnw f0 f1 f2 f3 f4 f5 f6 f7 f8 hN hC ZT
 go_enter Tryz.func44,Tryz.ntmps44
 go_upto_region 1 with fail
 have FBq:=Lib.hid (fun w' (hS':(fun w'=>Below w.heap.size w w') w')=>(And.intro ((hS'.cell (p:=⟨y,0,none⟩) ly).trans FF.out.1) (And.intro ((hS'.cell (p:=⟨y,1,none⟩) ly).trans FF.out.2.1) (And.intro ((hS'.cell (p:=⟨y,2,none⟩) ly).trans FF.out.2.2.1) (And.intro ((hS'.cell (p:=⟨y,3,none⟩) ly).trans FF.out.2.2.2.1) (And.intro ((hS'.cell (p:=⟨y,4,none⟩) ly).trans FF.out.2.2.2.2.1) (And.intro ((hS'.cell (p:=⟨y,5,none⟩) ly).trans FF.out.2.2.2.2.2.1) (And.intro ((hS'.cell (p:=⟨y,6,none⟩) ly).trans FF.out.2.2.2.2.2.2.1) (And.intro ((hS'.cell (p:=⟨y,7,none⟩) ly).trans FF.out.2.2.2.2.2.2.2.1) ((hS'.cell (p:=⟨y,8,none⟩) ly).trans FF.out.2.2.2.2.2.2.2.2))))))))))
 refine wp_region_plan (fun w'=>Below w.heap.size w w') [(0,true),(2,true),(3,true),(4,true),(5,true),(1,false),(6,true),(7,true),(8,true),(10,true),(11,true),(12,true),(13,true),(14,true),(9,false),(15,true),(16,true),(17,true),(18,true),(20,true),(21,true),(22,true),(23,true),(19,false),(24,true),(25,true)] (by kernel_rfl) (by kernel_rfl) ((Below.refl _ _).drew) ?_
 iterate 5
  refine wpPlan_read (by rfl) (by rfl) (fun R hR=>?_)
  apply Exists.intro
  refine⟨fun w' hS'=>?_,?_⟩
  ·obtain⟨f0,f1,f2,f3,f4,f5,f6,f7,f8⟩:=FBq.out w' hS'
   go_simp
   exact⟨rfl,rfl⟩
  go_simp
  refine hR _ ?_
  clear hR R
 refine wpPlan_do (by rfl) (by rfl) (fun K hK=>?_)
 go_simp
 refine(XS.out _ (Below.refl _ _).drew).mono ?_
 rintro e w1 ⟨rfl,hb1⟩
 have B1:Below w.heap.size w w1:=(Below.refl _ _).drew.trans hb1
 refine hK _ _ (B1) ?_
 clear hK K
 iterate 8
  refine wpPlan_read (by rfl) (by rfl) (fun R hR=>?_)
  apply Exists.intro
  refine⟨fun w' hS'=>?_,?_⟩
  ·obtain⟨f0,f1,f2,f3,f4,f5,f6,f7,f8⟩:=FBq.out w' hS'
   go_simp
   exact⟨rfl,rfl⟩
  go_simp
  refine hR _ ?_
  clear hR R
 refine wpPlan_do (by rfl) (by rfl) (fun K hK=>?_)
 go_simp
 refine(XL.out w1 B1).mono ?_
 rintro e w2 ⟨rfl,rfl⟩
 refine hK _ _ (B1) ?_
 clear hK K
 iterate 8
  refine wpPlan_read (by rfl) (by rfl) (fun R hR=>?_)
  apply Exists.intro
  refine⟨fun w' hS'=>?_,?_⟩
  ·obtain⟨f0,f1,f2,f3,f4,f5,f6,f7,f8⟩:=FBq.out w' hS'
   go_simp
   exact⟨rfl,rfl⟩
  go_simp
  refine hR _ ?_
  clear hR R
 refine wpPlan_do (by rfl) (by rfl) (fun K hK=>?_)
 go_simp
 refine(XN.out w1 B1).mono ?_
 rintro e w2 ⟨rfl,rfl⟩
 refine hK _ _ (B1) ?_
 clear hK K
 iterate 2
  refine wpPlan_read (by rfl) (by rfl) (fun R hR=>?_)
  apply Exists.intro
  refine⟨fun w' hS'=>?_,?_⟩
  ·obtain⟨f0,f1,f2,f3,f4,f5,f6,f7,f8⟩:=FBq.out w' hS'
   go_simp
   exact⟨rfl,rfl⟩
  go_simp
  refine hR _ ?_
  clear hR R
 refine wpPlan_nil ?_
 try refine calm_normal ?_
 have HB1:=Lib.hid B1
 clear B1 hb1
 go_wp2_with fail
 go_loopg [5,6,7] N (fun q t5 _ _ wr=>∃i:Nat,q=N - i/\i<=N/\t5=.int .i64 (i:Int)/\Hid (Below w.heap.size w wr))
 case atStart=>exact⟨0,by omega,by omega,rfl,HB1⟩
 case round=>
  obtain⟨i,hq,hi,rfl,HB⟩:=hrel
  have HQ:=Lib.hid hq
  clear hq
  have y7:wr.cell? ⟨y,7,none⟩=_:=(HB.out.cell (p:=⟨y,7,none⟩) ly).trans FF.out.2.2.2.2.2.2.2.1
  by_cases hlt:i<N
  ·have hli:(i:Int)<(N:Int):=by omega
   have hiL:i<s.L.length:=by rw[HN.out];exact hlt
   have CG:Hid (w.cell? ⟨g3,i,none⟩=some (.pointer (some ⟨rs.getD i 0,0,none⟩))):=Lib.hid (RCL.out i hiL)
   have X1:=Lib.hid (fun W hb=>XX.out W hb i hlt)
   have X2:=Lib.hid (fun W hb=>XY.out W hb i hiL)
   have X3:=Lib.hid (fun W hb=>XT.out W hb ((i:Int)+1))
   have X4:=Lib.hid (fun W hb=>XU.out W hb ((i:Int)+1))
   obtain⟨tt,htt⟩:∃q,wtot sp s ((i:Int)+1)=q:=⟨_,rfl⟩
   obtain⟨tx,htx⟩:∃q,jtxt sp (s.L.getD i sp.new)=q:=⟨_,rfl⟩
   rw[htt] at X3 X4
   rw[htx] at X1 X2
   obtain⟨st,hst⟩:∃q,strOfNums tx=q:=⟨_,rfl⟩
   have HST:=Lib.hid hst
   have htt2:(tt == tt)=true:=by simp
   have HW1:Hid (IntKind.i64.wrap ((i:Int)+1)=(i:Int)+1):=Lib.hid (by rw[IntKind.wrap_i64];omega)
   clear htt htx hst
   generalize rs.getD i 0=yi at *
   go_wp2_with fail
   refine(X1.out wr HB.out).mono ?_
   rintro e w5 ⟨u5,rfl,o5,hb5⟩
   have HB5:Hid (Below w.heap.size w w5):=Lib.hid (HB.out.trans (hb5.mono HB.out.size))
   have O5:Hid (RdI .u8 w5 u5 tx):=Lib.hid (OwnI.rd o5)
   clear o5 hb5 y7
   go_upto_region 7 with fail
   refine wp_region_plan (fun w'=>Below w5.heap.size w5 w') [(0,true),(1,true),(2,true),(3,true),(4,true),(5,true),(6,true),(7,true),(8,true),(9,true),(10,true),(11,true),(12,false),(13,false),(14,true),(15,true),(16,true),(17,true),(18,true),(19,true),(21,true),(22,true),(23,true),(20,false),(24,false),(25,true),(26,true)] (by kernel_rfl) (by kernel_rfl) ((Below.refl _ _).drew) ?_
   iterate 12
    refine wpPlan_read (by rfl) (by rfl) (fun R hR=>?_)
    apply Exists.intro
    refine⟨fun w' hS'=>?_,?_⟩
    ·have hw1:=HW1.out
     have ca:=conv_B (RdI.keep O5.out hS')
     rw[HST.out] at ca
     have y7:=((HB5.out.trans (hS'.mono HB5.out.size)).cell (p:=⟨y,7,none⟩) ly).trans FF.out.2.2.2.2.2.2.2.1
     have cg:=((HB5.out.trans (hS'.mono HB5.out.size)).cell (p:=⟨g3,i,none⟩) hg3).trans CG.out
     go_simp
     exact⟨rfl,rfl⟩
    go_simp
    refine hR _ ?_
    clear hR R
   refine wpPlan_do (by rfl) (by rfl) (fun K hK=>?_)
   go_simp
   refine(X2.out _ HB5.out.drew).mono ?_
   rintro e w6 ⟨v6,rfl,o6,hb6⟩
   have B6:Below w5.heap.size w5 w6:=(Below.refl _ _).drew.trans hb6
   have BW6:Below w.heap.size w w6:=HB5.out.trans (B6.mono HB5.out.size)
   have cb:=conv_B (OwnI.rd o6)
   rw[HST.out] at cb
   refine hK _ _ (B6) ?_
   clear hK K
   refine wpPlan_do (by rfl) (by rfl) (fun K hK=>?_)
   go_simp
   refine hK _ _ (B6) ?_
   clear hK K
   iterate 9
    refine wpPlan_read (by rfl) (by rfl) (fun R hR=>?_)
    apply Exists.intro
    refine⟨fun w' hS'=>?_,?_⟩
    ·have hw1:=HW1.out
     have ca:=conv_B (RdI.keep O5.out hS')
     rw[HST.out] at ca
     have y7:=((HB5.out.trans (hS'.mono HB5.out.size)).cell (p:=⟨y,7,none⟩) ly).trans FF.out.2.2.2.2.2.2.2.1
     have cg:=((HB5.out.trans (hS'.mono HB5.out.size)).cell (p:=⟨g3,i,none⟩) hg3).trans CG.out
     go_simp
     exact⟨rfl,rfl⟩
    go_simp
    refine hR _ ?_
    clear hR R
   refine wpPlan_do (by rfl) (by rfl) (fun K hK=>?_)
   go_simp
   refine(X3.out w6 BW6).mono ?_
   rintro e w7 ⟨rfl,hb7⟩
   have B7:Below w5.heap.size w5 w7:=B6.trans (hb7.mono B6.size)
   have BW7:Below w.heap.size w w7:=HB5.out.trans (B7.mono HB5.out.size)
   refine hK _ _ (B7) ?_
   clear hK K
   refine wpPlan_do (by rfl) (by rfl) (fun K hK=>?_)
   go_simp
   refine(X4.out w7 BW7).mono ?_
   rintro e w8 ⟨rfl,hb8⟩
   have B8:Below w5.heap.size w5 w8:=B7.trans (hb8.mono B7.size)
   refine hK _ _ (B8) ?_
   clear hK K
   iterate 2
    refine wpPlan_read (by rfl) (by rfl) (fun R hR=>?_)
    apply Exists.intro
    refine⟨fun w' hS'=>?_,?_⟩
    ·have hw1:=HW1.out
     have ca:=conv_B (RdI.keep O5.out hS')
     rw[HST.out] at ca
     have y7:=((HB5.out.trans (hS'.mono HB5.out.size)).cell (p:=⟨y,7,none⟩) ly).trans FF.out.2.2.2.2.2.2.2.1
     have cg:=((HB5.out.trans (hS'.mono HB5.out.size)).cell (p:=⟨g3,i,none⟩) hg3).trans CG.out
     go_simp
     exact⟨rfl,rfl⟩
    go_simp
    refine hR _ ?_
    clear hR R
   refine wpPlan_nil ?_
   try refine calm_normal ?_
   have HB8:Hid (Below w.heap.size w w8):=Lib.hid (HB5.out.trans (B8.mono HB5.out.size))
   clear B6 B7 B8 BW6 BW7 cb hb6 hb7 hb8 o6
   go_wp2_with fail
   go_roundg (N - (i+1))
   case measure=>have:=HQ.out;omega
   case rel=>exact⟨i+1,rfl,by omega,by go_num,HB8⟩
  ·have hli:¬((i:Int)<(N:Int)):=by omega
   have X0:=Lib.hid (fun W hb=>XT.out W hb 0)
   have X3:=Lib.hid (fun W hb=>XT.out W hb (-3))
   have XE:=Lib.hid (fun W hb=>XT.out W hb ((N:Int)+1))
   rw[HZT.out.1] at X0
   rw[HZT.out.2.1] at X3
   rw[HZT.out.2.2] at XE
   have hw1:IntKind.i64.wrap ((N:Int)+1)=(N:Int)+1:=by rw[IntKind.wrap_i64];omega
   go_wp2_with fail
   refine(XB.out wr HB.out (-1) (.inl (by omega))).mono ?_
   rintro e w5 ⟨rfl,hb5⟩
   have HB5:Hid (Below w.heap.size w w5):=Lib.hid (HB.out.trans (hb5.mono HB.out.size))
   clear y7
   have y7:w5.cell? ⟨y,7,none⟩=_:=(HB5.out.cell (p:=⟨y,7,none⟩) ly).trans FF.out.2.2.2.2.2.2.2.1
   go_wp2_with fail
   refine(XB.out w5 HB5.out N (.inr (by omega))).mono ?_
   rintro e w6 ⟨rfl,hb6⟩
   have HB6:Hid (Below w.heap.size w w6):=Lib.hid (HB5.out.trans (hb6.mono HB5.out.size))
   clear y7
   go_wp2_with fail
   refine(X0.out w6 HB6.out).mono ?_
   rintro e w7 ⟨rfl,hb7⟩
   have HB7:Hid (Below w.heap.size w w7):=Lib.hid (HB6.out.trans (hb7.mono HB6.out.size))
   go_wp2_with fail
   refine(X3.out w7 HB7.out).mono ?_
   rintro e w8 ⟨rfl,hb8⟩
   have HB8:Hid (Below w.heap.size w w8):=Lib.hid (HB7.out.trans (hb8.mono HB7.out.size))
   have y7:w8.cell? ⟨y,7,none⟩=_:=(HB8.out.cell (p:=⟨y,7,none⟩) ly).trans FF.out.2.2.2.2.2.2.2.1
   go_wp2_with fail
   refine(XE.out w8 HB8.out).mono ?_
   rintro e w9 ⟨rfl,hb9⟩
   have HB9:Hid (Below w.heap.size w w9):=Lib.hid (HB8.out.trans (hb9.mono HB8.out.size))
   go_wp2_with fail
   refine bodyPost_ret (by simp[results,Tryz.results44,go_sem, *];try rfl) rfl ?_
   exact⟨by simp,HB9.out⟩
theorem same30_any{sp:Spk}{s:Wn}{N x y:Nat}{F G:Ft}(w:World)(h:WinAt sp s x F w)(h2:RWinAt sp s y G w)(ok:WnOk sp N s) :
 Calls Tryz.prog 44 #[.pointer (some ⟨x,0,none⟩),.pointer (some ⟨y,0,none⟩)] w fun e w'=>e=.returned (.bool true)/\Below w.heap.size w w':=by
 cases sp with
 | h lo hi dg u m gr=>exact same30_c rfl rfl w h h2 ok
 | d a m=>exact same30_c rfl rfl w h h2 ok
 | t d=>exact same30_c rfl rfl w h h2 ok
 | k q=>exact same30_c rfl rfl w h h2 ok
open Go.RowKit Go.Lib Go.Shelf
def alS:Spk:=.d 500 50
theorem alS_ok:SpOk alS:=by unfold alS SpOk;decide
def AlAt(w0:World)(s:Wn)(x:Nat)(w:World):Prop:=(∃F,WinAt alS s x F w/\∀k,F k->w0.heap.size<=k)/\WnOk alS 3 s/\Below w0.heap.size w0 w
theorem AlAt.next{w0 w w':World}{s':Wn}{x:Nat}{F:Ft}(hF:∀k,F k->w0.heap.size<=k)(hb:Below w0.heap.size w0 w)(h:WinAt alS s' x (Gr F w w') w')(ok:WnOk alS 3 s')(ht:Touch F w w'):AlAt w0 s' x w':=by
 have hz:=hb.size
 exact⟨⟨_,h,fun k e=>e.elim (hF k) (fun e2=>by omega)⟩,ok,hb.trans (ht.below hF hz)⟩
theorem al_add{w0 w:World}{s:Wn}{x:Nat}(v n:Nat)(h:AlAt w0 s x w)(hv:v<=100)(hn:n<=100):Calls Tryz.prog 115 #[.pointer (some ⟨x,0,none⟩),.int .i64 v,.int .u64 n,.pointer none] w fun e w'=>e=.returned (.int .i64 (waddE alS s v n))/\AlAt w0 (waddS alS [] v n s 0) x w':=by
 obtain⟨⟨F,h1,hF⟩,ok,hb⟩:=h
 refine(win_add v n w h1 ok.each (CnAt.nil_ w) (fun⟨q,e⟩=>by unfold alS at e;cases e) (fun k e=>e.elim) (by omega) (by omega) (by omega) (by omega)).mono ?_
 rintro e w' ⟨rfl,h2,_,h4⟩
 exact⟨rfl,AlAt.next hF hb h2 (waddS_ok ok (by decide) trivial (by omega) (by omega) (by omega) (by omega)) (h4.mono fun k e=>e.elim id (fun f=>f.elim))⟩
theorem al_tick{w0 w:World}{s:Wn}{x:Nat}(n:Nat)(h:AlAt w0 s x w)(hn:n<=100):Calls Tryz.prog 49 #[.pointer (some ⟨x,0,none⟩),.int .u64 n] w fun e w'=>e=.returned (.tuple #[])/\AlAt w0 (wtick alS n s) x w':=by
 obtain⟨⟨F,h1,hF⟩,ok,hb⟩:=h
 refine(win_tick n w alS_ok h1 ok.now (by omega)).mono ?_
 rintro e w' ⟨rfl,h2,h4⟩
 exact⟨rfl,AlAt.next hF hb h2 (wtick_ok alS_ok ok (by decide)) h4⟩
theorem al_total{w0 w:World}{s:Wn}{x:Nat}(n:Nat)(h:AlAt w0 s x w):Calls Tryz.prog 55 #[.pointer (some ⟨x,0,none⟩),.int .i64 n] w fun e w'=>e=.returned (.int .u64 (wtot alS s n))/\AlAt w0 s x w':=by
 obtain⟨⟨F,h1,hF⟩,ok,hb⟩:=h
 have h9:=h1
 obtain⟨a0,C,v,ps,Ow,G1,h2,hL,_⟩:=h1
 refine(win_total n w h2 hL ok.each).mono ?_
 rintro e w' ⟨rfl,h3⟩
 exact⟨rfl,⟨F,(win_stay alS s x).keep h9 h3,hF⟩,ok,hb.trans (h3.mono hb.size)⟩
theorem al_now{w0 w:World}{s:Wn}{x:Nat}(h:AlAt w0 s x w):Calls Tryz.prog 48 #[.pointer (some ⟨x,0,none⟩)] w fun e w'=>e=.returned (.int .u64 s.now)/\w=w':=by
 obtain⟨⟨F,h1,hF⟩,ok,hb⟩:=h
 obtain⟨a0,C,v,ps,Ow,G1,h2,hL,_⟩:=h1
 exact win_now w h2
def al0:Wn:=wnew alS 3
def al1:Wn:=waddS alS [] (7:Nat) (1:Nat) al0 0
def al2:Wn:=wtick alS 1 al1
def al3:Wn:=waddS alS [] (9:Nat) (2:Nat) al2 0
def al4:Wn:=wtick alS 2 al3
def al5:Wn:=wtick alS 1 al4
theorem al_facts:waddE alS al0 (7:Nat) (1:Nat)=0/\waddE alS al2 (9:Nat) (2:Nat)=0/\wtot alS al3 (1:Nat)=2/\wtot alS al3 (2:Nat)=3/\wtot alS al4 (3:Nat)=2/\wtot alS al5 (3:Nat)=0/\al5.now=4:=by
 refine⟨by decide +kernel,by decide +kernel,by decide +kernel,by decide +kernel,by decide +kernel,by decide +kernel,by decide +kernel⟩
theorem alive30_any(w:World):Calls Tryz.prog 40 #[] w fun e w'=>e=.returned (.bool true)/\Below w.heap.size w w':=by
 have C0:=Lib.hid (win_new 3 w alS_ok (by decide) (by decide))
 obtain⟨f1,f2,f3,f4,f5,f6,f7⟩:=al_facts
 have C1:=Lib.hid (fun W x (h:AlAt w al0 x W)=>f1▸al_add 7 1 h (by decide) (by decide))
 have C2:=Lib.hid (fun W x (h:AlAt w al1 x W)=>al_tick 1 h (by decide))
 have C3:=Lib.hid (fun W x (h:AlAt w al2 x W)=>f2▸al_add 9 2 h (by decide) (by decide))
 have C4:=Lib.hid (fun W x (h:AlAt w al3 x W)=>f3▸al_total 1 h)
 have C5:=Lib.hid (fun W x (h:AlAt w al3 x W)=>f4▸al_total 2 h)
 have C6:=Lib.hid (fun W x (h:AlAt w al3 x W)=>al_tick 2 h (by decide))
 have C7:=Lib.hid (fun W x (h:AlAt w al4 x W)=>f5▸al_total 3 h)
 have C8:=Lib.hid (fun W x (h:AlAt w al4 x W)=>al_tick 1 h (by decide))
 have C9:=Lib.hid (fun W x (h:AlAt w al5 x W)=>f6▸al_total 3 h)
 have CA:=Lib.hid (fun W x (h:AlAt w al5 x W)=>f7▸al_now h)
 have hst:Hid (∀x W,WinAt alS (wnew alS 3) x (Gr (fun _=>False) w W) W->Below w.heap.size w W->AlAt w al0 x W):=Lib.hid (fun x W h hb=>⟨⟨_,h,fun k e=>e.elim False.elim And.left⟩,wnew_ok alS_ok,hb⟩)
 unfold alS Spk.v specV at C0
 clear f1 f2 f3 f4 f5 f6 f7
 go_enter Tryz.func40,Tryz.ntmps40
 go_wp2_with fail
 refine(C0.out).mono ?_
 rintro e w1 ⟨x,rfl,h1,hb1⟩
 have A0:=Lib.hid (hst.out x w1 h1 hb1)
 clear h1 hb1 C0 hst
 go_wp2_with fail
 refine(C1.out w1 x A0.out).mono ?_
 rintro e w2 ⟨rfl,h⟩
 have A1:=Lib.hid h
 clear h C1 A0
 go_wp2_with fail
 refine(C2.out w2 x A1.out).mono ?_
 rintro e w3 ⟨rfl,h⟩
 have A2:=Lib.hid h
 clear h C2 A1
 go_wp2_with fail
 refine(C3.out w3 x A2.out).mono ?_
 rintro e w4 ⟨rfl,h⟩
 have A3:=Lib.hid h
 clear h C3 A2
 go_wp2_with fail
 refine(C4.out w4 x A3.out).mono ?_
 rintro e w5 ⟨rfl,h⟩
 have A4:=Lib.hid h
 clear h C4 A3
 go_wp2_with fail
 refine(C5.out w5 x A4.out).mono ?_
 rintro e w6 ⟨rfl,h⟩
 have A5:=Lib.hid h
 clear h C5 A4
 go_wp2_with fail
 refine(C6.out w6 x A5.out).mono ?_
 rintro e w7 ⟨rfl,h⟩
 have A6:=Lib.hid h
 clear h C6 A5
 go_wp2_with fail
 refine(C7.out w7 x A6.out).mono ?_
 rintro e w8 ⟨rfl,h⟩
 have A7:=Lib.hid h
 clear h C7 A6
 go_wp2_with fail
 refine(C8.out w8 x A7.out).mono ?_
 rintro e w9 ⟨rfl,h⟩
 have A8:=Lib.hid h
 clear h C8 A7
 go_wp2_with fail
 refine(C9.out w9 x A8.out).mono ?_
 rintro e wa ⟨rfl,h⟩
 have A9:=Lib.hid h
 clear h C9 A8
 go_wp2_with fail
 refine(CA.out wa x A9.out).mono ?_
 rintro e wb ⟨rfl,rfl⟩
 go_wp2_with fail
 refine bodyPost_ret (by simp[results,Tryz.results40,go_sem, *];try rfl) rfl ?_
 exact⟨rfl,A9.out.2.2⟩
theorem great30_any{o0:Nat}{v:Value}{l:List Op5}(w:World)(h:RdO5 o0 w v l) :
 Calls Tryz.prog 45 #[v] w fun e w'=>(∃g:Bool,e=.returned (.bool g)/\(g=false->∀i,i<100->(hi:i<l.length)->l[i].B.length<=200))/\Below w.heap.size w w':=by
 obtain⟨_,A,c,rfl,hc1,hc2,hf⟩:=h
 have HF:=Lib.hid hf
 clear hf
 go_enter Tryz.func45,Tryz.ntmps45
 go_wp2_with fail
 go_loopg [3] (l.length) (fun q t3 wr=>∃i:Nat,q=l.length - i/\i<=l.length/\i<=100/\t3=.int .i64 (i:Int)/\w=wr/\Hid (∀j,j<i->(hj:j<l.length)->l[j].B.length<=200))
 case atStart=>exact⟨0,by omega,by omega,by omega,rfl,rfl,Lib.hid (fun j hj=>by omega)⟩
 case round=>
  obtain⟨i,hq,hi,hi2,rfl,rfl,HB⟩:=hrel
  have HQ:=Lib.hid hq
  clear hq
  by_cases hlt:i<l.length
  ·have hli:(i:Int)<(l.length:Int):=by omega
   by_cases h100:i<100
   ·have h1:(i:Int)<100:=by omega
    obtain⟨g,off,rfl,hg,hc⟩:=HF.out (by omega)
    obtain⟨cv,_,_,_,_,c4,hin⟩:=hc i hlt
    obtain⟨A4,c5,rfl,b1,b2,_⟩:=hin.rd.form
    obtain⟨x,hx⟩:∃x,l[i].B.length=x:=⟨_,rfl⟩
    rw[hx] at c4 b1
    have HX:=Lib.hid hx
    have C4:=Lib.hid c4
    clear hc hin hx c4
    have c4:w.cell? ⟨g,off+i * 5+4,none⟩=_:=C4.out
    by_cases hgt:200<x
    ·have hg2:(x:Int) > 200:=by omega
     go_wp2_with fail
     refine bodyPost_ret (by simp[results,Tryz.results45,go_sem, *];try rfl) rfl ?_
     exact⟨⟨true,rfl,fun e=>by cases e⟩,Below.refl _ _⟩
    ·have hg2:¬((x:Int) > 200):=by omega
     go_wp2_with fail
     go_roundg (l.length - (i+1))
     case measure=>have:=HQ.out;omega
     case rel=>exact⟨i+1,rfl,by omega,by omega,by go_num,rfl,Lib.hid (fun j hj hjl=>by
      by_cases e:j=i
      ·subst e;rw[HX.out];omega
      ·exact HB.out j (by omega) hjl)⟩
   ·have h1:¬((i:Int)<100):=by omega
    go_wp2_with fail
    refine bodyPost_ret (by simp[results,Tryz.results45,go_sem, *];try rfl) rfl ?_
    first
     | exact⟨⟨false,rfl,fun _ j h2 h3=>HB.out j (by omega) h3⟩,Below.refl _ _⟩
     | exact⟨.inl ⟨rfl,fun j h2 h3=>HB.out j (by omega) h3⟩,Below.refl _ _⟩
  ·have hli:¬((i:Int)<(l.length:Int)):=by omega
   go_wp2_with fail
   refine bodyPost_ret (by simp[results,Tryz.results45,go_sem, *];try rfl) rfl ?_
   first
    | exact⟨⟨false,rfl,fun _ j h2 h3=>HB.out j (by omega) h3⟩,Below.refl _ _⟩
    | exact⟨.inl ⟨rfl,fun j h2 h3=>HB.out j (by omega) h3⟩,Below.refl _ _⟩
end Go.Proofs.YtkiebccnpheloaaGreat.D
