/- Parts. No condition. -/
import Derived.Test.YtdicblkhpcphfaaGreatPA37
import Derived.Lib.SliceRun
set_option maxRecDepth 100000
set_option maxHeartbeats 0
set_option linter.all false
namespace Go.Proofs.YtdicblkhpcphfaaGreat
open Tryz Go.RowKit Go.Lib Go.Shelf
open _root_.List renaming length→ao
open _root_.Go renaming Calls→ar
open Tryz renaming prog→Oe
namespace D
variable{sp:i9}
def Ew{kd lo hi dg ac sz:Int}{gr:Bool}(X:sp.v=iv kd lo hi dg gr ac sz)(s:oU sp)(Y:sp.small)(R:Value)(l:List wF)(W w:World)(n:vK W.heap.size W R l)(p:∀o∈l,o.fits)(f:∀(i:Nat) (h:i<ao l),i<30->ao l[i].B<=200)(u:aq W w) :
 ar Oe 25 #[iv kd lo hi dg gr ac sz,R] w λe v=>∃x y,e=.returned (.tuple #[.pointer (some ⟨x,0,none⟩),.pointer (some ⟨y,0,none⟩)])/\(∃c,(∃F,iX sp c x F v)/\(∃G,iz sp c y G v)/\je sp c)/\aq W v:=by
 obtain⟨o,A,c,rfl,B,j,d⟩:=n;have M:Hid (vK W.heap.size W (.slice A (ao l) c) l):=ay ⟨o,A,c,rfl,B,j,d⟩;have N:=ay p;have L:=ay f;have y:=ay (λw=>D_ s w)
 have I:=ay s;have J:=ay Y;rw[X] at y;unfold iv at y |-;have hnil:=λ(w:World) (g:Nat)=>Go.Lib.run_eql_slice_nil (P:=prog) w 94 46 (some ⟨g,0,none⟩) 2 2 0 0 underlying94
 obtain⟨b,t⟩:=au (w.heap.size);obtain⟨a,x⟩:=au (w.alloc (.cells #[.int .u8 kd,.int .i64 lo,.int .i64 hi,.int .i64 dg,.bool gr,.int .i64 ac,.int .i64 sz] 33));have r:aq W a:=by rw[<-x];exact u.alloc u.size _
 have q:gN a b 33 #[.int .u8 kd,.int .i64 lo,.int .i64 hi,.int .i64 dg,.bool gr,.int .i64 ac,.int .i64 sz]:=by rw[<-x,<-t];exact gN.new _ _ _
 obtain⟨V,T,S,K,E,D,C⟩:=q.c7;have z:=ay r;clear X d p s Y f q r u
 go_in
 go_upto_region 1 with fail;try rw[x]
 try rw[t]
 clear x t
 go_wp2_with fail;refine(y.o a).mono ?_
 rintro e k ⟨X,Y,H,O,Q,rfl,u,x⟩;have U:Hid (Qg W sp (vD sp l (λ_=>sp.new) 0) X Y O Q k):=ay ⟨⟨H,u.down z.o.size⟩,z.o.trans (x.mono z.o.size)⟩
 clear u x y z V T S K E D C
 go_wp2
 go_loopg [8] (ao l) (λq z wr=>∃i:Nat,q=ao l - i/\i<=ao l/\i<=30/\z=.int .i64 (i:Int)/\Hid (Qg W sp (vD sp l (λ_=>sp.new) i) X Y O Q wr))
 exact⟨0,aa,aa,aa,rfl,U⟩
 case round=>
  obtain⟨i,z,hi,hi2,rfl,y⟩:=hrel;have K:=ay z;clear z U
  by_cases m:i<ao l/\i<30
  ·obtain⟨u,E⟩:=m
   have S:(i:Int)<(ao l:Int):=aa
   have D:(i:Int)<30:=aa
   obtain⟨g,off,C,rfl,x,T,s,r,q,f,d⟩:=M.o.act u;have z:=y.o.below;have s:=(z.cell (p:=⟨g,_,none⟩) x).trans s;have r:=(z.cell (p:=⟨g,_,none⟩) x).trans r;have q:=(z.cell (p:=⟨g,_,none⟩) x).trans q;have f:=(z.cell (p:=⟨g,_,none⟩) x).trans f;have d:=(z.cell (p:=⟨g,_,none⟩) x).trans d;have V:Hid (vD sp l (λ_=>sp.new) (i+1)=NZ sp l[i] (vD sp l (λ_=>sp.new) i)):=ay (by
    rw[vD,fO,aQ u,eB])
   have t:=ay (y.o.act l[i] I.o J.o (N.o _ (aX u)) (T.keep (aD _) y.o.below) (L.o i u E));rw[<-V.o] at t;clear T V z;generalize l[i].kd=T at *;generalize l[i].who=YP at *;generalize l[i].v=ov at *;generalize l[i].n=Z6 at *
   go_wp2_with fail;refine(t.o).mono ?_
   rintro e w6 ⟨rfl,z⟩;have V:=ay z;clear z t y s r q f d
   go_wp2
   go_roundg (ao l - (i+1))
   exact⟨i+1,rfl,aa,aa,ag,V⟩
   have:=K.o;omega
  ·obtain⟨⟨F,x⟩,⟨G,q⟩,f,s,r,V,d⟩:=y.o.win (i:=0) ab
   have t:=ay (aF s r);have z:=ay (aF x (aF q f));have p:=ay y.o.below;clear x q f s r;generalize vD sp l (λ_=>sp.new) i 0=C at *
   have x:aq wr wr.drew:=(aC _ _).drew
   by_cases u:i<ao l
   ·have S:(i:Int)<(ao l:Int):=aa
    have D:¬((i:Int)<30):=aa
    go_upto_region 9 with fail;refine i' (λv=>v=wr.drew) (gW 0 8 []) (rfl) ?_
    iterate 8 refine hC (h:=λv q=>by subst q;have s:=t.o.1;have r:=t.o.2;exact Qv) ?_
    refine gM ?_
    go_wp2;refine an ?_
    exact⟨_,_,rfl,⟨C,⟨_,(h_ sp C _).keep z.o.1 x⟩,⟨_,(iw sp C _).keep z.o.2.1 x⟩,z.o.2.2⟩,p.o.drew⟩
   ·have S:¬((i:Int)<(ao l:Int)):=aa
    go_upto_region 9 with fail;refine i' (λv=>v=wr.drew) (gW 0 8 []) (rfl) ?_
    iterate 8 refine hC (h:=λv q=>by subst q;have s:=t.o.1;have r:=t.o.2;exact Qv) ?_
    refine gM ?_
    go_wp2;refine an ?_
    exact⟨_,_,rfl,⟨C,⟨_,(h_ sp C _).keep z.o.1 x⟩,⟨_,(iw sp C _).keep z.o.2.1 x⟩,z.o.2.2⟩,p.o.drew⟩
def zn(p:oU sp)(q:sp.small)(z:Value)(l:List wF)(W w:World)(s:vK W.heap.size W z l)(t:∀o∈l,o.fits)(r:∀(i:Nat) (h:i<ao l),i<30->ao l[i].B<=200)(u:aq W w) :
 ar Oe 25 #[sp.v,z] w λe v=>∃x y,e=.returned (.tuple #[.pointer (some ⟨x,0,none⟩),.pointer (some ⟨y,0,none⟩)])/\(∃c,(∃F,iX sp c x F v)/\(∃G,iz sp c y G v)/\je sp c)/\aq W v:=by
 obtain⟨c,b,d,g,x,a,f,y,_⟩:=sp.form;rw[y];exact Ew y p q z l W w s t r u
def I3(v:Int)(s:Bool)(x z:Int):∃(t:Int) (r:Bool) (u y:Int),tq v s x z=.tuple #[.agg #[.int .i64 t,.bool r,.int .u64 u],.int .i64 y]:=by
 by_cases h:z=0
 ·subst h;exact⟨_,_,_,_,N' _ _ _⟩
 ·exact⟨_,_,_,_,ni h⟩
def Ex(kind a b:Nat)(gr:Bool)(I:Value)(l:List wF)(d f v:Int)(W:World)(hk:kind<=255)(S:a<=65535)(z:b<=65535)(Y:vK W.heap.size W I l)(c:∀o∈l,o.fits)(u:0<=d)(r:d<18446744073709551616)(p:0<=f)(g:f<18446744073709551616)(T:-9223372036854775808<=v)(R:v<=9223372036854775807) :
 ar Oe 6 #[.int .u8 kind,.int .u16 a,.int .u16 b,.bool gr,I,.int .u64 d,.int .u64 f,.int .i64 v] W (aw W (.bool true)):=by
 have B:=ay Y;have HF:=ay c;have n:=N5 (kind:=kind) (a:=a) (b:=b) (gr:=gr) z;have M:=ay (λw=>D' kind a b gr w hk S z)
 obtain⟨t,V⟩:=au (zf kind a b gr);rw[V] at n M;obtain⟨U,X⟩:=n;have y:=ay (BX W);have x:=ay (λw (h:aq W w)=>BL w (B.o.keep h))
 have D:=ay (λw (s:∀(i:Nat) (h:i<ao l),i<30->ao l[i].B<=200) (z:aq W w)=>zn U X I l W w B.o HF.o s z)
 have s:=ay (aF u (aF r (aF p (aF g (aF T R)))));clear Y c V U X u r p g T R;have Z8:∀(p:Nat) (w:World),Sem.run prog (binOp .eql 46 (.pointer (some ⟨p,0,none⟩)) (.pointer none)) w=.ok (.bool false) w:=λp w=>by kernel_rfl
 go_in
 go_wp2_with fail;refine(y.o).mono ?_
 rintro e w1 ⟨rfl,u⟩;have U:=ay u;clear u y
 go_wp2_with fail;refine(x.o w1 U.o).mono ?_
 rintro e k ⟨⟨g,rfl,u⟩,y⟩;have T:Hid (aq W k):=ay (U.o.trans (y.mono U.o.size));have C:=ay u;clear y u x
 cases g with
 | true=>
  go_wp2;refine an ?_
  exact⟨rfl,T.o⟩
 | false=>
  go_wp2_with fail;refine(M.o k).mono ?_
  rintro e h ⟨rfl,y⟩;have O:Hid (aq W h):=ay (T.o.trans (y.mono T.o.size));clear y M
  go_wp2_with fail;refine(D.o h (λi Y V=>C.o (by first|rfl|trivial) i aa Y) O.o).mono ?_
  rintro e r ⟨x,y,rfl,⟨c,⟨F,Y⟩,⟨G,V⟩,X⟩,K⟩;have E:=ay K;have N:=ay (λu (z:aq r u)=>Sl d f u ((h_ t c x).keep Y z) X s.o.1 s.o.2.1 s.o.2.2.1 s.o.2.2.2.1)
  have L:=ay (λu (z:aq r u)=>Qu d f u ((iw t c y).keep V z) X s.o.1 s.o.2.1 s.o.2.2.1 s.o.2.2.2.1)
  have A:=ay (λu (z:aq r u)=>Et v u ((h_ t c x).keep Y z) X s.o.2.2.2.2.1 s.o.2.2.2.2.2)
  have j:=ay (λu (z:aq r u)=>Ce v u ((iw t c y).keep V z) X s.o.2.2.2.2.1 s.o.2.2.2.2.2)
  have i:=ay (λu (z:aq r u)=>DY u ((h_ t c x).keep Y z) ((iw t c y).keep V z) X)
  obtain⟨Q,P,R,er',u⟩:=I3 (qo t c d f).1 (qo t c d f).2.1 (qo t c d f).2.2.1 (qo t c d f).2.2.2;rw[u] at N L;generalize (iT t c v).1=q1 at *;generalize (iT t c v).2.1=q2 at *;generalize (iT t c v).2.2=q3 at *;clear K Y V X u D C U T O
  go_wp2_with fail;refine(N.o r (aC _ _)).mono ?_
  rintro e O ⟨rfl,K⟩
  go_upto_region 9 with fail;obtain⟨z1,J⟩:=au (O.heap.size);obtain⟨H,X⟩:=au (O.alloc (.cells #[.int .i64 Q,.bool P,.int .u64 R] 72));have S:aq O H:=by rw[<-X];exact bw
  have m:=ay (show gN H z1 72 #[.int .i64 Q,.bool P,.int .u64 R] by rw[<-X,<-J];exact gN.new _ _ _)
  have u:=ay (K.trans (S.mono K.size));rw[X,J];clear X J K S N
  go_wp2_with fail;refine(L.o H u.o).mono ?_
  rintro e N ⟨rfl,K⟩;have o:=ay (m.o.keep K);have X:=ay (u.o.trans (K.mono u.o.size));clear K m u L
  go_upto_region 10 with fail;obtain⟨z2,L⟩:=au (N.heap.size);obtain⟨K,u⟩:=au (N.alloc (.cells #[.int .i64 Q,.bool P,.int .u64 R] 72));have z:aq N K:=by rw[<-u];exact bw
  have J:=ay (show gN K z2 72 #[.int .i64 Q,.bool P,.int .u64 R] by rw[<-u,<-L];exact gN.new _ _ _)
  have m:=ay (o.o.keep z);have q:=ay (X.o.trans (z.mono X.o.size));rw[u,L];clear u L z o X
  go_wp2_with fail;refine(A.o K q.o).mono ?_
  rintro e w7 ⟨rfl,X⟩;have u:=ay (q.o.trans (X.mono q.o.size));have o:=ay (m.o.keep X);have L:=ay (J.o.keep X);clear X A q m J
  go_wp2_with fail;refine(j.o w7 u.o).mono ?_
  rintro e J ⟨rfl,q⟩;have X:=ay (u.o.trans (q.mono u.o.size));obtain⟨A,m,k2⟩:=(o.o.keep q).c3;obtain⟨m0,m1,m2⟩:=(L.o.keep q).c3;clear q j u o L
  go_wp2_with fail;refine(i.o J X.o).mono ?_
  rintro e L ⟨rfl,u⟩;have q:=ay (E.o.trans ((X.o.trans (u.mono X.o.size)).mono E.o.size));clear u
  go_wp2;refine an ?_
  exact⟨rfl,q.o⟩
end D
end Go.Proofs.YtdicblkhpcphfaaGreat
