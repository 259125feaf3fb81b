/- Parts. No condition. -/
import Derived.Test.YtdicblkhpcphfaaGreatPA18
set_option maxRecDepth 100000
set_option maxHeartbeats 0
set_option linter.all false
namespace Go.Proofs.YtdicblkhpcphfaaGreat
open Tryz Go.RowKit Go.Lib
open _root_.List renaming length→ao
open _root_.Go renaming Calls→ar
open Tryz renaming prog→Oe
namespace D
variable{w w':World}{v1 v2:Value}{B g:Nat}{l:List Pr}
def QI:uJ Int where
 k:=1
 t:=3
 enc x:=[.int .i64 x]
 len _:=rfl
 one x u hu:=by
  simp only[aS,cQ,or_false] at hu;subst hu;rfl
def Nl:uJ Int where
 k:=1
 t:=36
 enc x:=[.int .u64 x]
 len _:=rfl
 one x u hu:=by
  simp only[aS,cQ,or_false] at hu;subst hu;rfl
def W_:(prog.info? 3).map (λi=>(i.zero,i.size,i.bytes))=some (some (.int .i64 0),1,8):=by kernel_rfl
def Xa:(prog.info? 36).map (λi=>(i.zero,i.size,i.bytes))=some (some (.int .u64 0),1,8):=by kernel_rfl
def PM:Ty prog QI 316:=xm W_ underlying316 rfl ab  ab
def PN:Ty prog Nl 270:=xm Xa underlying270 rfl ab  ab
def kC{α β:Type}{E1:uJ α}{E2:uJ β}{b1 b2:Nat}{l1:List α}{l2:List β}(v:gO E1 b1 w v1 l1)(u:gO E2 b2 w v2 l2)(t:E1.t≠E2.t):v1.ownBlock=none\/v1.ownBlock≠v2.ownBlock:=by
 rcases v.2 with h|⟨g,s,q,rfl,_,z,_⟩
 ·exact .inl (by rw[h.1];rfl)
 ·refine .inr λe=>?_
  rcases u.2 with h|⟨f,r,p,rfl,_,y,_⟩
  ·rw[h.1] at e;cases e
  ·cases e
   have x:=bC (z.symm.trans y);injection x with _ h3 _;exact t h3
def ups:Int->List Pr->List Int
 | _,[]=>[]
 | t,p::l=>(t+p.2)::ups (t+p.2) l
def tH:∀(l:List Pr) (t:Int),ao (ups t l)=ao l
 | [],_=>rfl
 | p::l,t=>by rw[ups,aJ,aJ,tH l]
def AU:∀(l:List Pr) (t:Int) (p:Pr),ups t (l++[p])=ups t l++[t+tot l+p.2]
 | [],t,p=>by simp[ups,D.tot]
 | q::l,t,p=>by
  have e:tot (q::l)=q.2+tot l:=by simp[D.tot]
  rw[b8,ups,AU l,ups,b8,e,show t+q.2+tot l+p.2=t+(q.2+tot l)+p.2 by omega]
def AV:∀(l:List Pr) (t:Int),0<ao l->(ups t l)[ao l - 1]?=some (t+tot l)
 | [p],t,_=>by simp[ups,D.tot]
 | p::q::l,t,_=>by
  have z:=AV (q::l) (t+p.2) ad
  have e:tot (p::q::l)=p.2+tot (q::l):=by simp[D.tot]
  rw[ups,e,show t+(p.2+tot (q::l))=t+p.2+tot (q::l) by omega,<-z]
  simp
def mr(B:Nat)(w:World)(g:Nat)(l:List Pr):Prop:=B<=g/\∃v1 v2,gN w g 318 #[v1,v2]/\gO QI B w v1 (l.map Prod.fst)/\gO Nl B w v2 (ups 0 l)
def mr.keep(h:mr B w g l)(z:aq w w'):mr B w' g l:=by
 obtain⟨y,t,s,x,v,u⟩:=h;exact⟨y,t,s,x.keep z,v.keep z,u.keep z⟩
def mr.lt{B:Nat}{w:World}{g:Nat}{l:List Pr}(h:mr B w g l):g<w.heap.size:=by
 obtain⟨_,y,x,z,_⟩:=h;exact z.lt
def yR{w2:World}{u1 u2:Value}{p:Pr}(t:B<=g)(z:gN w2 g 318 #[v1,v2])(v:gO QI B w2 u1 (l.map Prod.fst++[p.1]))(u:gO Nl B w2 u2 (ups 0 l++[tot l+p.2])) :
 mr B ((w2.setCell ⟨g,0,none⟩ u1).setCell ⟨g,1,none⟩ u2) g (l++[p]):=by
 have y:=own_ne z v ab
 have x:=own_ne z u ab
 refine⟨t,u1,u2,(z.gR 0 u1).gR 1 u2,?_,?_⟩
 ·rw[eh];exact(v.far y _).far y _
 ·rw[AU,fC];exact(u.far x _).far x _
def Kq(v:Value)(l:List Pr)(w:World)(h:iA il w v l)(x:iE l)(y:iu l)(ht:tot l<=4611686018427387904)(hl:ao l<=1000000000) :
 ar Oe 235 #[v] w λe r=>∃g,e=.returned (.tuple #[.pointer (some ⟨g,0,none⟩),.int .i64 0])/\mr w.heap.size r g l/\aq w r:=by
 obtain⟨A,c,rfl,_,_,z⟩:=h.form;have HF:=ay z;have HS:Hid (∀j (h:j+1<ao l),l[j].1<l[j+1].1):=ay (λj h=>bO.1 x j (j+1) _ h aa)
 have HP:=ay y;clear h z x y
 go_in
 go_wp2_with fail;obtain⟨g,z⟩:=au (w.heap.size);have T0:Hid (mr w.heap.size (w.alloc (.cells #[.slice none 0 0,.slice none 0 0] 318)) g []):=ay ⟨by omega,_,_,by rw[<-z];exact gN.new _ _ _,gO.nil_ _ _,gO.nil_ _ _⟩
 have hb0:aq w (w.alloc (.cells #[.slice none 0 0,.slice none 0 0] 318)):=bw;rw[z] at |-;generalize w.alloc (.cells #[.slice none 0 0,.slice none 0 0] 318)=w0 at *;clear z
 go_loopg [5,12] (ao l) (λq s i wr=>∃j:Nat,q=ao l - j/\j<=ao l/\i=.int .i64 j/\s=.int .u64 (tot (l.take j))/\Hid (mr w.heap.size wr g (l.take j))/\aq w wr)
 exact⟨0,rfl,aa,rfl,rfl,T0,hb0⟩
 case round=>
  obtain⟨j,z,hj,rfl,rfl,HT,hb⟩:=hrel;have HQ:=ay z;have hz:=hb.size;clear z
  by_cases hlt:j<ao l
  ·obtain⟨gp,off,rfl,Jw,c0,c1⟩:=j7 HF.o hlt
   have hji:(j:Int)<(ao l:Int):=aa
   have c0:=(hb.cell (p:=⟨gp,off+j * 2,none⟩) Jw).trans c0;have c1:=(hb.cell (p:=⟨gp,off+j * 2+1,none⟩) Jw).trans c1;have hpos:=HP.o _ (aX hlt);have hts:=hQ hlt;have htl:=iV HP.o j;have Xb:=iV HP.o (j+1);have Xc:Hid (0<j->∃x0:Int,x0<l[j].1/\w.cell? ⟨gp,off+(j - 1) * 2,none⟩=some (.int .i64 x0)):=ay (λh0=>by
    obtain⟨i,rfl⟩:∃i,j=i+1:=⟨j - 1,aa⟩
    obtain⟨x,u,y,_,z,_⟩:=j7 HF.o (j:=i) (by omega)
    cases y
    exact⟨_,HS.o i hlt,by simpa using z⟩)
   have Qx:Hid (l.take (j+1)=l.take j++[l[j]]):=ay (aM hlt);have u:Hid (l[j]=(l[j].1,l[j].2)):=ay rfl;generalize l[j].1=x at *;generalize l[j].2=n at *;rw[u.o] at Qx;obtain⟨t,y⟩:=au (tot (l.take j));rw[y] at hts htl |-;have zM:=ay y;clear y u
   go_upto_region 6 with fail;obtain⟨q0,u⟩:=au (wr.heap.size);obtain⟨a,y⟩:=au (wr.alloc (.cells #[.int .i64 x,.int .u64 n] 192));have Q:Hid (gN a q0 192 #[.int .i64 x,.int .u64 n]):=by rw[<-y,<-u];exact ay (gN.new _ _ _)
   have hba:aq wr a:=by rw[<-y];exact bw
   rw[y,u];clear y u;have EM:Hid (IntKind.u64.wrap (4611686018427387904 - t)=4611686018427387904 - t):=ay (by rw[g_];omega)
   have ES:Hid (IntKind.u64.wrap (t+n)=t+n):=ay (by rw[g_];omega)
   have hn1:(n == 0)=false:=af
   have hn2:¬4611686018427387904 - t<n:=aa
   have Wd:aq a a.drew:=(aC _ _).drew;have hbp:=hb.trans (hba.mono hz)
   go_cut [41,12] from 12 to 67 (λb i y=>b=.bool false/\i=.int .i64 j/\y=a.drew)
   case first=>
    rcases bh j with h0|h0
    ·have d:decide (0<j)=false:=cj aa
     clear h0;refine i' (aq a) (gW 0 25 []) (Wd) ?_
     iterate 14 refine hC (h:=λr u=>by have q:=EM.o;have s:=(Q.o.keep u).k0;have y:=(Q.o.keep u).k1;exact Qv) ?_
     iterate 9 (refine jI ?_;try go_simp)
     iterate 2 refine hC (h:=λr u=>by have q:=EM.o;have s:=(Q.o.keep u).k0;have y:=(Q.o.keep u).k1;exact Qv) ?_
     refine gM ?_
     go_wp2_with fail
     go_meet
     exact⟨rfl,rfl,rfl⟩
    ·obtain⟨x0,U,z⟩:=Xc.o h0
     obtain⟨i,rfl⟩:∃i,j=i+1:=⟨j - 1,aa⟩
     have z:w.cell? ⟨gp,off+i * 2,none⟩=some (.int .i64 x0):=by simpa using z
     have T:¬x<=x0:=aa
     have Y:((i:Int)+1) - 1=(i:Int):=aa
     have V:(i:Int)<(ao l:Int):=aa
     have f:Hid (IntKind.i64.wrap (i:Int)=(i:Int)):=ay ai
     have d:(0:Int)<(i:Int)+1:=aa
     refine i' (aq a) (gW 0 25 []) (Wd) ?_
     iterate 25 refine hC (h:=λr u=>by have q:=EM.o;have X:=f.o;have s:=(Q.o.keep u).k0;have y:=(Q.o.keep u).k1;have b:=((hbp.trans (u.mono hbp.size)).cell (p:=⟨gp,off+i * 2,none⟩) Jw).trans z;exact Qv) ?_
     refine gM ?_
     go_wp2_with fail
     go_meet
     exact⟨rfl,ad,rfl⟩
   case rest=>
    obtain⟨rfl,rfl,rfl⟩:=hcut;have y:=(Q.o.keep Wd).k1;have O:=ES.o
    go_upto_region 9 with fail;have W2:aq a a.drew:=Wd;have T:=hbp.trans (W2.mono hbp.size);obtain⟨U,v1,v2,f,d,b⟩:=HT.o.keep (hba.trans (W2.mono hba.size));have Y:=Q.o.keep W2;have S:(g:Nat)≠q0:=by
     rintro rfl;have:=f.symm.trans Y;simp at this
    have hlk:ao (l.take j)<=1000000000:=by rw[aU];omega
    have hl1:ao ((l.take j).map Prod.fst)+1<=1099511627776:=by rw[dj];omega
    have hl2:ao (ups 0 (l.take j))+1<=1099511627776:=by rw[tH];omega
    have q:=ay (aF f (aF d (aF b (aF Y (aF T (aF U S))))));obtain⟨A1,c1',ev1,_,_,_⟩:=d.form;obtain⟨A2,c2',Tq,_,_,_⟩:=b.form;obtain⟨K1,X⟩:=au ((l.take j).map Prod.fst);obtain⟨K2,V⟩:=au (ups 0 (l.take j));rw[X] at hl1 ev1 q;rw[V] at hl2 Tq q;have Ts:=ay X;have Tt:=ay V;obtain⟨n1,R⟩:=au (ao K1);obtain⟨n2,P⟩:=au (ao K2);rw[R] at ev1;rw[P] at Tq;subst ev1 Tq;clear R P X V;clear f d b Y y T U S O;have hzd:w.heap.size<=a.drew.heap.size:=q.o.2.2.2.2.1.size;generalize a.drew=wd at *;refine tp (λr=>gN r g 318 #[.slice A1 n1 c1',.slice A2 n2 c2']/\gN r q0 192 #[.int .i64 x,.int .u64 n]) 19 (.rd 0 false (.rd 1 false (.rd 2 false (.rd 3 false (.rd 4 false (.rd 5 true (.rd 6 false (.rd 7 true (.rd 10 false (.rd 11 false (.rd 12 false (.rd 13 true (.rd 14 false (.fk 8 15 (.fk 9 15 (.ef 15 (.ef 16 (.rd 17 false (.rd 18 false (.ef 19 (.rd 20 false (.rd 21 false (.ef 22 .done)))))))) (.ef 9 (.ef 16 (.rd 17 false (.rd 18 false (.ef 19 (.rd 20 false (.rd 21 false (.ef 22 .done))))))))) (.ef 8 (.ef 9 (.ef 16 (.rd 17 false (.rd 18 false (.ef 19 (.rd 20 false (.rd 21 false (.ef 22 .done))))))))))))))))))))))) (by kernel_rfl) (by kernel_rfl) ⟨q.o.1.drew,q.o.2.2.2.1.drew⟩ ?_
    refine gZ ak  ak (λR y=>?_)
    apply br
    refine⟨λr=>?_,?_⟩
    ·go_simp
     exact⟨rfl,rfl⟩
    go_simp;refine y _ ?_;clear y R;refine gZ ak  ak (λR y=>?_)
    apply br
    refine⟨λr=>?_,?_⟩
    ·go_simp
     exact⟨rfl,rfl⟩
    go_simp;refine y _ ?_;clear y R;refine gZ ak  ak (λR y=>?_)
    apply br
    refine⟨λr=>?_,?_⟩
    ·go_simp
     exact⟨rfl,rfl⟩
    go_simp;refine y _ ?_;clear y R;refine gZ ak  ak (λR y=>?_)
    apply br
    refine⟨λr=>?_,?_⟩
    ·go_simp
     exact⟨rfl,rfl⟩
    go_simp;refine y _ ?_;clear y R;refine gZ ak  ak (λR y=>?_)
    apply br
    refine⟨λr=>?_,?_⟩
    ·go_simp
     exact⟨rfl,rfl⟩
    go_simp;refine y _ ?_;clear y R;refine oz ak  ak (λR y=>?_)
    apply br
    refine⟨λr u=>?_,?_⟩
    ·have V:=u.1.k0
     have U:=u.1.k1;have s:=u.2.k0
     exact Qv
    go_simp;refine y _ ?_;clear y R;refine gZ ak  ak (λR y=>?_)
    apply br
    refine⟨λr=>?_,?_⟩
    ·go_simp
     exact⟨rfl,rfl⟩
    go_simp;refine y _ ?_;clear y R;refine oz ak  ak (λR y=>?_)
    apply br
    refine⟨λr u=>?_,?_⟩
    ·have V:=u.1.k0
     have U:=u.1.k1;have s:=u.2.k0
     exact Qv
    go_simp;refine y _ ?_;clear y R;refine gZ ak  ak (λR y=>?_)
    apply br
    refine⟨λr=>?_,?_⟩
    ·go_simp
     exact⟨rfl,rfl⟩
    go_simp;refine y _ ?_;clear y R;refine gZ ak  ak (λR y=>?_)
    apply br
    refine⟨λr=>?_,?_⟩
    ·go_simp
     exact⟨rfl,rfl⟩
    go_simp;refine y _ ?_;clear y R;refine gZ ak  ak (λR y=>?_)
    apply br
    refine⟨λr=>?_,?_⟩
    ·go_simp
     exact⟨rfl,rfl⟩
    go_simp;refine y _ ?_;clear y R;refine oz ak  ak (λR y=>?_)
    apply br
    refine⟨λr u=>?_,?_⟩
    ·have V:=u.1.k0
     have U:=u.1.k1;have s:=u.2.k0
     exact Qv
    go_simp;refine y _ ?_;clear y R;refine gZ ak  ak (λR y=>?_)
    apply br
    refine⟨λr=>?_,?_⟩
    ·go_simp
     exact⟨rfl,rfl⟩
    go_simp;refine y _ ?_;clear y R;have D1:=q.o.1.drew;have D2:=q.o.2.2.2.1.drew;have E1:=q.o.2.1.drew;have E2:=q.o.2.2.1.drew;have hbd:aq w wd.drew:=q.o.2.2.2.2.1.drew;have Rq:w.heap.size<=wd.drew.heap.size:=hzd;generalize wd.drew=we at *;refine rL ?_ ?_
    ·refine jd ak  ak  ak (λK u=>?_)
     go_simp;refine u _ _ ⟨D1.alloc _,D2.alloc _⟩ ?_
     clear u K;have Hb:=gN.alloc D1 (.cells #[.int .i64 x] 3);have Hc:=gN.alloc D2 (.cells #[.int .i64 x] 3);have S:=gO.alloc E1 (.cells #[.int .i64 x] 3);have Kr:=gO.alloc E2 (.cells #[.int .i64 x] 3);have Hd:=dG hbd Rq (.cells #[.int .i64 x] 3);have Rr:=gO.one (E:=QI) we x _ rfl _ rfl;have Ks:=Hd.size;refine rL ?_ ?_
     ·refine jd ak  ak  ak (λK u=>?_)
      refine EX PM (.tmp 51) (.tmp 54) rfl S rfl _ [x] rfl Rr.rd hl1 Ks ?_
      intro v7 w7 T f _;have D:=ia Hb S ab f
      have B:=ia Hc S ab f
      have F:=gO.grown Kr f (kC Kr S ab)
      have M:=eY Hd f Ks (λk X=>(S.lt k X).1)
      obtain⟨A7,c7,O,_,_,_⟩:=T.form;obtain⟨n7,J⟩:=au (ao (K1++[x]));rw[J] at O;subst O;clear J;refine u _ _ ⟨D,B⟩ ?_
      clear u K f;have o:=M.size;refine jd ak  ak  ak (λK u=>?_)
      go_simp;refine u _ _ ⟨D.alloc _,B.alloc _⟩ ?_
      clear u K;have C:=gN.alloc D (.cells #[.int .u64 (t+n)] 36);have m:=gN.alloc B (.cells #[.int .u64 (t+n)] 36);have Y:=gO.alloc T (.cells #[.int .u64 (t+n)] 36);have d:=gO.alloc F (.cells #[.int .u64 (t+n)] 36);have L:=dG M o (.cells #[.int .u64 (t+n)] 36);have AW:=gO.one (E:=Nl) w7 (t+n) _ rfl _ rfl;have H:=L.size;refine jd ak  ak  ak (λK u=>?_)
      refine EX PN (.tmp 59) (.tmp 61) rfl d rfl _ [t+n] rfl AW.rd hl2 H ?_
      intro v8 w8 G b _;have P:=ia C d ab b
      have Kt:=ia m d ab b
      have Ku:=gO.grown Y b (kC Y d ab)
      have Kv:=eY L b H (λk X=>(d.lt k X).1)
      obtain⟨A8,c8,N,_,_,_⟩:=G.form;obtain⟨n8,I⟩:=au (ao (K2++[t+n]));rw[I] at N;subst N;clear I;refine u _ _ ⟨P,Kt⟩ ?_
      clear u K;have s:=ay (aF P (aF Ku (aF G Kv)));have V:=s.o.1.k0;have U:=s.o.1.k1;have f0:=s.o.1.frozen 0;have f1:=s.o.1.frozen 1;refine gZ ak  ak (λR y=>?_)
      apply br
      refine⟨λr=>?_,?_⟩
      ·go_simp
       exact⟨rfl,rfl⟩
      go_simp;refine y _ ?_;clear y R;refine gZ ak  ak (λR y=>?_)
      apply br
      refine⟨λr=>?_,?_⟩
      ·go_simp
       exact⟨rfl,rfl⟩
      go_simp;refine y _ ?_;clear y R;refine lx ak  ak  ak (λK u=>?_)
      go_simp;refine u _ _ ?_
      clear u K;refine gZ ak  ak (λR y=>?_)
      apply br
      refine⟨λr=>?_,?_⟩
      ·go_simp
       exact⟨rfl,rfl⟩
      go_simp;refine y _ ?_;clear y R;refine gZ ak  ak (λR y=>?_)
      apply br
      refine⟨λr=>?_,?_⟩
      ·go_simp
       exact⟨rfl,rfl⟩
      go_simp;refine y _ ?_;clear y R;refine lx ak  ak  ak (λK u=>?_)
      go_simp;refine u _ _ ?_
      clear u K;refine oB ?_
      go_wp2
      go_roundg (ao l - (j+1))
      exact⟨j+1,rfl,aa,ag,by rw[hts],ay (by rw[Qx.o];exact yR (p:=(x,n)) q.o.2.2.2.2.2.1 s.o.1 (by rw[Ts.o];exact s.o.2.1) (by rw[zM.o,Tt.o];exact s.o.2.2.1)),(s.o.2.2.2.setCell (p:=⟨g,0,none⟩) (by exact q.o.2.2.2.2.2.1) _).setCell (p:=⟨g,1,none⟩) (by exact q.o.2.2.2.2.2.1) _⟩
      have:=HQ.o;omega
     ·refine jd ak  ak  ak (λK u=>?_)
      go_simp;refine u _ _ ⟨Hb.alloc _,Hc.alloc _⟩ ?_
      clear u K;have D:=gN.alloc Hb (.cells #[.int .u64 (t+n)] 36);have B:=gN.alloc Hc (.cells #[.int .u64 (t+n)] 36);have Y:=gO.alloc S (.cells #[.int .u64 (t+n)] 36);have F:=gO.alloc Kr (.cells #[.int .u64 (t+n)] 36);have M:=dG Hd Ks (.cells #[.int .u64 (t+n)] 36);have Nm:=gO.alloc Rr (.cells #[.int .u64 (t+n)] 36);have W:=gO.one (E:=Nl) (we.alloc (.cells #[.int .i64 x] 3)) (t+n) _ rfl _ rfl;simp only[aI] at W;have o:=M.size;refine jd ak  ak  ak (λK u=>?_)
      refine EX PM (.tmp 51) (.tmp 54) rfl Y rfl _ [x] rfl Nm.rd hl1 o ?_
      intro v7 w7 T f _;have C:=ia D Y ab f
      have m:=ia B Y ab f
      have d:=gO.grown F f (kC F Y ab)
      have AW:=gO.grown W f (kC W Y ab)
      have L:=eY M f o (λk X=>(Y.lt k X).1)
      obtain⟨A7,c7,O,_,_,_⟩:=T.form;obtain⟨n7,J⟩:=au (ao (K1++[x]));rw[J] at O;subst O;clear J;refine u _ _ ⟨C,m⟩ ?_
      clear u K f;have H:=L.size;refine jd ak  ak  ak (λK u=>?_)
      refine EX PN (.tmp 59) (.tmp 61) rfl d rfl _ [t+n] rfl AW.rd hl2 H ?_
      intro v8 w8 G b _;have P:=ia C d ab b
      have Kt:=ia m d ab b
      have Ku:=gO.grown T b (kC T d ab)
      have Kv:=eY L b H (λk X=>(d.lt k X).1)
      obtain⟨A8,c8,N,_,_,_⟩:=G.form;obtain⟨n8,I⟩:=au (ao (K2++[t+n]));rw[I] at N;subst N;clear I;refine u _ _ ⟨P,Kt⟩ ?_
      clear u K;have s:=ay (aF P (aF Ku (aF G Kv)));have V:=s.o.1.k0;have U:=s.o.1.k1;have f0:=s.o.1.frozen 0;have f1:=s.o.1.frozen 1;refine gZ ak  ak (λR y=>?_)
      apply br
      refine⟨λr=>?_,?_⟩
      ·go_simp
       exact⟨rfl,rfl⟩
      go_simp;refine y _ ?_;clear y R;refine gZ ak  ak (λR y=>?_)
      apply br
      refine⟨λr=>?_,?_⟩
      ·go_simp
       exact⟨rfl,rfl⟩
      go_simp;refine y _ ?_;clear y R;refine lx ak  ak  ak (λK u=>?_)
      go_simp;refine u _ _ ?_
      clear u K;refine gZ ak  ak (λR y=>?_)
      apply br
      refine⟨λr=>?_,?_⟩
      ·go_simp
       exact⟨rfl,rfl⟩
      go_simp;refine y _ ?_;clear y R;refine gZ ak  ak (λR y=>?_)
      apply br
      refine⟨λr=>?_,?_⟩
      ·go_simp
       exact⟨rfl,rfl⟩
      go_simp;refine y _ ?_;clear y R;refine lx ak  ak  ak (λK u=>?_)
      go_simp;refine u _ _ ?_
      clear u K;refine oB ?_
      go_wp2
      go_roundg (ao l - (j+1))
      exact⟨j+1,rfl,aa,ag,by rw[hts],ay (by rw[Qx.o];exact yR (p:=(x,n)) q.o.2.2.2.2.2.1 s.o.1 (by rw[Ts.o];exact s.o.2.1) (by rw[zM.o,Tt.o];exact s.o.2.2.1)),(s.o.2.2.2.setCell (p:=⟨g,0,none⟩) (by exact q.o.2.2.2.2.2.1) _).setCell (p:=⟨g,1,none⟩) (by exact q.o.2.2.2.2.2.1) _⟩
      have:=HQ.o;omega
    ·refine jd ak  ak  ak (λK u=>?_)
     go_simp;refine u _ _ ⟨D1.alloc _,D2.alloc _⟩ ?_
     clear u K;have Hb:=gN.alloc D1 (.cells #[.int .u64 (t+n)] 36);have Hc:=gN.alloc D2 (.cells #[.int .u64 (t+n)] 36);have S:=gO.alloc E1 (.cells #[.int .u64 (t+n)] 36);have Kr:=gO.alloc E2 (.cells #[.int .u64 (t+n)] 36);have Hd:=dG hbd Rq (.cells #[.int .u64 (t+n)] 36);have Rs:=gO.one (E:=Nl) we (t+n) _ rfl _ rfl;have Ks:=Hd.size;refine jd ak  ak  ak (λK u=>?_)
     go_simp;refine u _ _ ⟨Hb.alloc _,Hc.alloc _⟩ ?_
     clear u K;have D:=gN.alloc Hb (.cells #[.int .i64 x] 3);have B:=gN.alloc Hc (.cells #[.int .i64 x] 3);have Y:=gO.alloc S (.cells #[.int .i64 x] 3);have F:=gO.alloc Kr (.cells #[.int .i64 x] 3);have M:=dG Hd Ks (.cells #[.int .i64 x] 3);have W:=gO.alloc Rs (.cells #[.int .i64 x] 3);have Nm:=gO.one (E:=QI) (we.alloc (.cells #[.int .u64 (t+n)] 36)) x _ rfl _ rfl;simp only[aI] at Nm;have o:=M.size;refine jd ak  ak  ak (λK u=>?_)
     refine EX PM (.tmp 51) (.tmp 54) rfl Y rfl _ [x] rfl Nm.rd hl1 o ?_
     intro v7 w7 T f _;have C:=ia D Y ab f
     have m:=ia B Y ab f
     have d:=gO.grown F f (kC F Y ab)
     have AW:=gO.grown W f (kC W Y ab)
     have L:=eY M f o (λk X=>(Y.lt k X).1)
     obtain⟨A7,c7,O,_,_,_⟩:=T.form;obtain⟨n7,J⟩:=au (ao (K1++[x]));rw[J] at O;subst O;clear J;refine u _ _ ⟨C,m⟩ ?_
     clear u K f;have H:=L.size;refine jd ak  ak  ak (λK u=>?_)
     refine EX PN (.tmp 59) (.tmp 61) rfl d rfl _ [t+n] rfl AW.rd hl2 H ?_
     intro v8 w8 G b _;have P:=ia C d ab b
     have Kt:=ia m d ab b
     have Ku:=gO.grown T b (kC T d ab)
     have Kv:=eY L b H (λk X=>(d.lt k X).1)
     obtain⟨A8,c8,N,_,_,_⟩:=G.form;obtain⟨n8,I⟩:=au (ao (K2++[t+n]));rw[I] at N;subst N;clear I;refine u _ _ ⟨P,Kt⟩ ?_
     clear u K;have s:=ay (aF P (aF Ku (aF G Kv)));have V:=s.o.1.k0;have U:=s.o.1.k1;have f0:=s.o.1.frozen 0;have f1:=s.o.1.frozen 1;refine gZ ak  ak (λR y=>?_)
     apply br
     refine⟨λr=>?_,?_⟩
     ·go_simp
      exact⟨rfl,rfl⟩
     go_simp;refine y _ ?_;clear y R;refine gZ ak  ak (λR y=>?_)
     apply br
     refine⟨λr=>?_,?_⟩
     ·go_simp
      exact⟨rfl,rfl⟩
     go_simp;refine y _ ?_;clear y R;refine lx ak  ak  ak (λK u=>?_)
     go_simp;refine u _ _ ?_
     clear u K;refine gZ ak  ak (λR y=>?_)
     apply br
     refine⟨λr=>?_,?_⟩
     ·go_simp
      exact⟨rfl,rfl⟩
     go_simp;refine y _ ?_;clear y R;refine gZ ak  ak (λR y=>?_)
     apply br
     refine⟨λr=>?_,?_⟩
     ·go_simp
      exact⟨rfl,rfl⟩
     go_simp;refine y _ ?_;clear y R;refine lx ak  ak  ak (λK u=>?_)
     go_simp;refine u _ _ ?_
     clear u K;refine oB ?_
     go_wp2
     go_roundg (ao l - (j+1))
     exact⟨j+1,rfl,aa,ag,by rw[hts],ay (by rw[Qx.o];exact yR (p:=(x,n)) q.o.2.2.2.2.2.1 s.o.1 (by rw[Ts.o];exact s.o.2.1) (by rw[zM.o,Tt.o];exact s.o.2.2.1)),(s.o.2.2.2.setCell (p:=⟨g,0,none⟩) (by exact q.o.2.2.2.2.2.1) _).setCell (p:=⟨g,1,none⟩) (by exact q.o.2.2.2.2.2.1) _⟩
     have:=HQ.o;omega
  ·obtain rfl:j=ao l:=aa
   have z:=HT;rw[bj (aD _)] at z
   go_wp2
   go_ret2
   exact⟨_,rfl,z.o,hb⟩
def s8(w:World)(h:mr B w g l):ar Oe 300 #[.pointer (some ⟨g,0,none⟩)] w λe u=>e=.returned (.int .u64 (tot l))/\w=u:=by
 obtain⟨_,S,R,q,_,a⟩:=h;have r:=q.k1;have z:=tH l 0;obtain⟨A,c,rfl,t,V,s⟩:=a.form;rw[z] at t r;have C:Hid (ar Oe 236 #[.pointer (some ⟨g,0,none⟩),.int .i64 (ao l)] w λe u=>e=.returned (.int .u64 (tot l))/\w=u):=by
  refine ay ?_
  by_cases X:ao l=0
  ·have e:l=[]:=aN X
   subst e;clear s
   go_in
   go_wp2
   go_ret;exact⟨rfl,rfl⟩
  ·have x:=AV l 0 aa
   rw[fC] at x;obtain⟨Y,v,rfl,_,p⟩:=s (by rw[z];omega)
   have y:=p (ao l - 1) (by rw[z];omega) 0 ab
   have d:(Nl.enc (ups 0 l)[ao l - 1])[0]?=some (.int .u64 (tot l)):=by
    have:(ups 0 l)[ao l - 1]=tot l:=by
     rw[aQ (by rw[z];omega)] at x
     exact bC x
    rw[this];rfl
   rw[d] at y;have f:w.cell? ⟨Y,v+(ao l - 1),none⟩=some (.int .u64 (tot l)):=by
    have e:v+(ao l - 1) * Nl.k+0=v+(ao l - 1):=by show v+(ao l - 1) * 1+0=_;omega
    rw[e] at y;exact y
   obtain⟨n,b⟩:∃n,ao l=n+1:=⟨ao l - 1,aa⟩
   rw[b] at f r t |-;simp only[da] at f;have T:((n:Int)+1) - 1=(n:Int):=aa
   have U:IntKind.i64.wrap (n:Int)=(n:Int):=ai
   clear p y d x b z
   go_in
   go_wp2
   go_ret;exact⟨rfl,rfl⟩
 clear s a q t V
 go_in
 go_wp2_with fail;refine(C.o).mono ?_
 rintro e u ⟨rfl,rfl⟩
 go_wp2
 go_ret;exact⟨rfl,rfl⟩
def uT.first{w1:World}{bs:List Int}{a:Nat}{v:Value}{e:Ending}(z:aq w w1)(h:uT w1 g bs a v e w'):uT w g bs a v e w':=⟨h.1,h.2.1,yE z h.2.2⟩
def He(k K:Nat)(c z:Int)(g:Nat)(bs:List Int)(a b:Nat)(n:Int)(w:World)(h:hM w g bs a)(u:FL k c z)(x:se k=K)
 (q:∀y w,(callFunc K y).run prog w=.ok (.enter K y) w)
 (v:∀w,hM w g bs a->Calls prog K #[.pointer (some ⟨g,0,none⟩),.int .i64 z] w (uT w g bs b (.tuple #[.int .u64 n,.int .i64 0]))) :
 ar Oe 330 #[.pointer (some ⟨g,0,none⟩),.int .u8 c] w (uT w g bs b (.tuple #[.int .u64 n,.int .i64 0])):=by
 have H:=ay h;have s:=ay v;have t:Hid (ar Oe 276 #[.int .u8 c] w λe y=>e=.returned (.tuple #[.agg #[.int .u8 c,.int .i64 z,.func (.func (mY k)) #[] #[],.func (.func K) #[] #[]],.bool true])/\aq w y):=by
  rw[<-x];exact ay (ic k c z w u)
 clear h v x u
 go_in
 go_wp2_with fail;refine(t.o).mono ?_
 rintro e r ⟨rfl,u⟩;have p:=u.size;have x:∀y,aq w (r.alloc (.cells y 377)):=λy=>bw
 go_wp2_with (go_at_fn K;refine(s.o _ (H.o.keep (x _))).mono ?_)
 rintro e f y;have v:=ay (uT.first (x _) y);obtain⟨rfl,_,_⟩:=y
 go_wp2
 go_ret2
 exact v.o
section
variable {g a : Nat} {bs r : List Int} {n : Int} {w : World}
def xA(w:World)(h:hM w g bs a)(y:ao bs<=1000000000000)(z:bs.drop a=n::r)(x:0<=n)(v:n<256) :
 ar Oe 330 #[.pointer (some ⟨g,0,none⟩),.int .u8 98] w (uT w g bs (a+1) (.tuple #[.int .u64 n,.int .i64 0])):=
 He 0 402 98 1 g bs a (a+1) n w h J_ rfl (λ_ _=>rfl) (λw h=>G6 w h y z x v)
end
def sy(g z:Nat)(n:Int)(bs:List Int)(w:World)(h:Wr 373 z w g bs)(n0:0<=n)(n1:n<256)(m:ao bs<=1000000000000) :
 ar Oe 401 #[.pointer (some ⟨g,0,none⟩),.int .u64 n,.int .i64 1] w λe x=>e=.returned (.tuple #[])/\Wr 373 z x g (bs++[n])/\Below z w x:=by
 have H:=ay h;have W:=h.lt;clear h;have f:IntKind.u8.wrap n=n:=by rw[show IntKind.u8.wrap n=n % 256 from rfl];omega
 have O:=ay f;clear f
 go_in
 go_wp2
 go_loopg [8] 1 (λq i wr=>∃j:Nat,q=1 - j/\j<=1/\i=.int .i64 j/\Hid (Wr 373 z wr g (bs++[n].take j))/\Below z w wr)
 exact⟨0,rfl,aa,rfl,by rw[cY,bT];exact H,aC _ _⟩
 case round=>
  obtain⟨j,y,l,rfl,c,d⟩:=hrel;have M:=ay y;have hz:=d.size;clear y
  by_cases o:j<1
  ·obtain rfl:j=0:=aa
   rw[cY,bT] at c;obtain⟨I,v,y,u⟩:=c.o;have X:=ay y;have U:=ay u;have G:ao bs+1<=1099511627776:=aa
   clear y u;have Y:gN wr.drew g 373 #[v]:=X.o.drew;obtain⟨s,b,P,_,_,_⟩:=(gT.rd U.o).form;obtain⟨q,y⟩:=au (ao bs);rw[y] at P;subst P;clear y;have V:Hid (gN (wr.alloc (.cells #[.int .u8 n] 5)).drew g 373 #[.slice s q b]):=ay (X.o.alloc _).drew;have u:Hid (gO bE z (wr.alloc (.cells #[.int .u8 n] 5)).drew (.slice s q b) bs):=ay (gO.alloc (gX.1 U.o) _).drew;have Q:Below z w (wr.alloc (.cells #[.int .u8 n] 5)).drew:=(d.alloc aa _).drew
   have f:=O.o;have L:IntKind.i64.wrap 0=0:=rfl
   go_upto_region 3 with fail;refine ki (λx=>gN x g 373 #[.slice s q b]) 12 (gW 0 10 (ib 10 (ib 11 []))) (Y) ?_
   iterate 10 refine jw (h:=λx y=>by have p:=gN.cell y 0;simp only[aA,az] at p;have A:=L;exact Qv) ?_
   refine mg λK y=>?_
   go_simp;refine y _ _ (Y.alloc _) ?_
   clear y K;refine mg λK y=>?_
   refine EX qQ (.tmp 15) (.tmp 21) rfl u.o rfl _ [n] rfl (gO.one (E:=bE) wr.drew n _ rfl _ rfl).rd G ah ?_
   intro v1 F a t _;have r:=ia V.o u.o ab t
   have J:Below z w F:=Q.grown t (by have:=Q.size;omega) (λk T=>(gO.lt u.o k T).1)
   have T:=ay (nG (i:=0) V.o u.o ab t a)
   obtain⟨D,B,S,_,_,_⟩:=a.form;obtain⟨C,R⟩:=au (ao (bs++[n]));rw[R] at S;subst S;clear R a t;refine y _ _ (r) ?_
   clear y K;refine gU ?_
   simp only[bc,bp];have p:=r.k0;have t:=r.frozen 0
   go_wp2_with fail;refine gQ ?_
   go_wp2
   go_roundg 0
   exact⟨1,rfl,aa,ag,ay ⟨I,_,T.o.1,gX.2 T.o.2⟩,J.setCell aa _⟩
   have:=M.o;omega
  ·obtain rfl:j=1:=aa
   have u:=c
   go_wp2_with fail;refine cp (v:=.tuple #[]) (by simp[results,Tryz.results401,go_sem, *];try rfl) rfl ?_
   exact⟨rfl,u.o,d⟩
def Hf(g d:Nat)(v s:Int)(bs:List Int)(w:World)(h:Wr 373 d w g bs)(S:-9223372036854775808<=v)(R:v<=9223372036854775807)(hl:ao bs<=1000000000000) :
 ar Oe 409 #[.pointer (some ⟨g,0,none⟩),.int .u64 (ub v),.int .i64 s] w λe K=>e=.returned (.tuple #[])/\Wr 373 d K g (bs++nn v)/\Below d w K:=by
 have H:=ay h;have hlt:=h.lt;have y:=yq S R;have sb:=qB S R;have W:=ay (zQ v w S R);clear h;have h:Hid (nn v=lj 8 (qs v)):=ay rfl;rw[h.o];generalize qs v=z at *;generalize ub v=u at *
 go_in
 go_wp2_with fail;refine(W.o).mono ?_
 rintro e K ⟨rfl,rfl⟩;clear y
 go_wp2
 go_loopg [1,9] 8 (λk x i wr=>∃(m:Int) (t:List Int) (j:Nat),k+j=8/\i=.int .i64 j/\x=.int .u64 m/\0<=m/\m<256 * 128 ^ k/\ao t<=8 - k/\Hid (t++lj k m=lj 8 z)/\Hid (Wr 373 d wr g (bs++t))/\Below d w wr)
 exact⟨z,[],0,aa,rfl,rfl,sb.1,aa,ad,ay rfl,by rw[bT];exact H,aC _ _⟩
 case round=>
  obtain⟨m,t,j,hkj,rfl,rfl,m0,n,ha,O,hw,hb⟩:=hrel;obtain⟨hbg,v1,y,r⟩:=hw.o;have G:=ay y;have F:=ay r;have a:=y.k0;have T:=y.frozen 0;have Zc:=y.lt;have L:ao (bs++t)+1<=1099511627776:=by rw[aE];omega
  obtain⟨J,o,l,_,_,_⟩:=(gT.rd F.o).form;obtain⟨D,x⟩:=au (ao (bs++t));rw[x] at l;subst l;have Y:=ay (gX.1 F.o);clear y r x;have U:Hid (∀(y:Int) (X:Value) (p:World),gO bE d p X (bs++t++[y])->(wr.alloc (.cells #[.int .u8 y] 5)).grownBy p (Value.slice J D o).ownBlock->gN p g 373 #[.slice J D o]/\Wr 373 d (p.setCell ⟨g,0,none⟩ X) g (bs++t++[y])/\Below d w p):=ay (λy X p x r=>by
   have P:=nG (i:=0) (G.o.alloc _) (Y.o.alloc _) ab r x
   exact⟨ia (G.o.alloc _) (Y.o.alloc _) ab r,⟨hbg,_,P.1,gX.2 P.2⟩,(hb.alloc aa _).grown r (by simp only[aI];omega) (λk M=>(Y.o.lt k M).1)⟩)
  by_cases M:gk=0
  ·subst M
   obtain rfl:j=8:=aa
   have P:m % 256=m:=by simp at n;omega
   have i:IntKind.u8.wrap m=m:=P
   go_wp2_with (at_builtin;refine nu qQ rfl (.tmp 43) (.tmp 46) rfl (Y.o.alloc _) rfl _ [m] rfl (iA.hJ (E:=bE) _ m _ rfl _ rfl _ ad) L ah ?_;intro X p x r _;obtain⟨I,B,c,_,_,_⟩:=x.form;obtain⟨C,b⟩:=au (ao (bs++t++[m]));rw[b] at c;subst c;clear b;obtain⟨f,y,V⟩:=U.o m _ p x r;have y:=ay y;have a:=f.k0;have T:=f.frozen 0;clear x r)
   refine cp (v:=.tuple #[]) (by simp[results,Tryz.results409,go_sem, *];try rfl) rfl ?_
   exact⟨rfl,by rw[<-O.o,<-aO];exact y.o,V.setCell aa _⟩
  ·obtain⟨q,rfl⟩:∃q,gk=q+1:=⟨gk - 1,aa⟩
   have Zd:(j:Int)<8:=aa
   by_cases A:127<m
   ·have Q:=ay (pN q m A)
    have hd:m / 128<256 * 128 ^ q:=ck aa (by rw[bG,<-ch];exact n)
    have o8:=Oj (m % 256) aa  aa
    have k:m % 256 % 128+128=m % 128+128:=aa
    have hcm:¬m<=127:=aa
    have Ze:bits .or .u8 (IntKind.u8.wrap m) 128=m % 128+128:=by rw[show IntKind.u8.wrap m=m % 256 from rfl,o8,k]
    go_wp2_with (at_builtin;refine nu qQ rfl (.tmp 28) (.tmp 32) rfl (Y.o.alloc _) rfl _ [m % 128+128] rfl (iA.hJ (E:=bE) _ (m % 128+128) _ rfl _ rfl _ ad) L ah ?_;intro X p x r _;obtain⟨I,B,c,_,_,_⟩:=x.form;obtain⟨C,b⟩:=au (ao (bs++t++[m % 128+128]));rw[b] at c;subst c;clear b;obtain⟨f,y,V⟩:=U.o (m % 128+128) _ p x r;have y:=ay y;have a:=f.k0;have T:=f.frozen 0;clear x r)
    go_roundg q
    exact⟨m / 128,t++[m % 128+128],j+1,aa,ag,rfl,aa,hd,af,by show _=_;rw[aO,<-O.o,Q.o];rfl,by rw[<-aO];exact y,V.setCell aa _⟩
    omega
   ·have Q:=ay (pO (q+1) m A)
    have P:m % 256=m:=aa
    have i:IntKind.u8.wrap m=m:=P;have hcm:m<=127:=aa
    go_wp2_with (at_builtin;refine nu qQ rfl (.tmp 17) (.tmp 20) rfl (Y.o.alloc _) rfl _ [m] rfl (iA.hJ (E:=bE) _ m _ rfl _ rfl _ ad) L ah ?_;intro X p x r _;obtain⟨I,B,c,_,_,_⟩:=x.form;obtain⟨C,b⟩:=au (ao (bs++t++[m]));rw[b] at c;subst c;clear b;obtain⟨f,y,V⟩:=U.o m _ p x r;have y:=ay y;have a:=f.k0;have T:=f.frozen 0;clear x r)
    refine bodyPost_ret (results_none rfl _ _ _) rfl ?_
    exact⟨rfl,by rw[<-O.o,Q.o,<-aO];exact y.o,V.setCell aa _⟩
def Kw(x:Int)(v:Value)(w:World)(s:jf .u64 w v [ub x])(u:-9223372036854775808<=x)(t:x<=9223372036854775807) :
 ar Oe 195 #[.string ⟨#[110]⟩,v] w λe z=>∃v,e=.returned (.tuple #[v,.int .i64 0])/\OwnB w.heap.size z v (nn x)/\aq w z:=
 put_any 9 409 110 (ub x) (nn x) v w To s (wY x).1 (wY x).2 rfl (λ_ _=>rfl) (λg y w h=>Hf g y x 0 [] w h u t ad)
def AX(w:World):ar Oe 275 #[.string ⟨#[118,118,118,98]⟩] w (aw w (.bool true)):=by
 have s:=λw=>ay (ic 0 98 1 w J_)
 have x:=λw=>ay (ic 7 118 0 w Nd)
 go_in
 go_wp2
 go_loopg [11] 4 (λq i wr=>∃j:Nat,q=4 - j/\j<=4/\i=.int .i64 j/\aq w wr)
 exact⟨0,rfl,aa,rfl,aC _ _⟩
 case round=>
  obtain⟨j,z,q,rfl,t⟩:=hrel;have y:=ay z;have p:=t.size;clear z
  rcases(show j=0\/j=1\/j=2\/j=3\/j=4 by omega) with rfl|rfl|rfl|rfl|rfl
  ·go_wp2_with (go_at_call 276;refine((x _).o).mono ?_;rintro e u ⟨rfl,z⟩;have v:=z.size)
   go_roundg 3
   exact⟨1,rfl,aa,ag,bw⟩
   have:=y.o;omega
  ·go_wp2_with (go_at_call 276;refine((x _).o).mono ?_;rintro e u ⟨rfl,z⟩;have v:=z.size)
   go_roundg 2
   exact⟨2,rfl,aa,ag,bw⟩
   have:=y.o;omega
  ·go_wp2_with (go_at_call 276;refine((x _).o).mono ?_;rintro e u ⟨rfl,z⟩;have v:=z.size)
   go_roundg 1
   exact⟨3,rfl,aa,ag,bw⟩
   have:=y.o;omega
  ·go_wp2_with (go_at_call 276;refine((s _).o).mono ?_;rintro e u ⟨rfl,z⟩;have v:=z.size)
   go_roundg 0
   exact⟨4,rfl,aa,ag,bw⟩
   have:=y.o;omega
  ·go_wp2
   go_ret;exact⟨rfl,t⟩
def j9(a b c d:Int):Nat->List Int
 | 0=>[]
 | 1=>hZ a
 | 2=>hZ a++hZ b
 | 3=>hZ a++hZ b++hZ c
 | _=>hZ a++hZ b++hZ c++[d]
def xB(a b c d:Int)(j:Nat):ao (j9 a b c d j)<=40:=by
 have z:=gS a;have y:=gS b;have x:=gS c
 match j with
 | 0=>simp[j9]
 | 1=>simp only[j9,aE,aJ,aV];omega
 | 2=>simp only[j9,aE,aJ,aV];omega
 | 3=>simp only[j9,aE,aJ,aV];omega
 | n+4=>simp only[j9,aE,aJ,aV];omega
def Hg(a b c d:Int)(v:Value)(w:World)(g:jf .u64 w v [a,b,c,d])(m:0<=a)(o:a<18446744073709551616)(n:0<=b)(W:b<18446744073709551616)(S:0<=c)(k:c<18446744073709551616)(h:0<=d)(d1:d<256) :
 ar Oe 195 #[.string ⟨#[118,118,118,98]⟩,v] w λe I=>∃v,e=.returned (.tuple #[v,.int .i64 0])/\OwnB w.heap.size I v (j9 a b c d 4)/\aq w I:=by
 obtain⟨AA,cn,rfl,hn,hc,y⟩:=g.form;obtain⟨X,U,rfl,V,u⟩:=y.at_ (j:=0) (by simp)
 obtain⟨K,J,x,_,t⟩:=y.at_ (j:=1) (by simp)
 simp only[aW,bY,and_true] at x;obtain⟨rfl,rfl⟩:=x;obtain⟨K,J,x,_,s⟩:=y.at_ (j:=2) (by simp)
 simp only[aW,bY,and_true] at x;obtain⟨rfl,rfl⟩:=x;obtain⟨K,J,x,_,r⟩:=y.at_ (j:=3) (by simp)
 simp only[aW,bY,and_true] at x;obtain⟨rfl,rfl⟩:=x;simp only[aJ,aV,bn,bZ,bP] at hn u t s r |-;have H:=ay u;have G:=ay t;have F:=ay s;have E:=ay r;have M:=λw=>ay (ic 0 98 1 w J_)
 have q:mY 0=401:=rfl;rw[q] at M;have f:=λw=>ay (ic 7 118 0 w Nd)
 have p:mY 7=405:=rfl;rw[p] at f;have Rt:∀z w,(callFunc 405 z).run prog w=.ok (.enter 405 z) w:=λ_ _=>rfl
 have Ru:∀z w,(callFunc 401 z).run prog w=.ok (.enter 401 z) w:=λ_ _=>rfl
 have C:Hid (j9 a b c d 0++(hZ a)=j9 a b c d 1):=ay rfl;have B:Hid (j9 a b c d 1++(hZ b)=j9 a b c d 2):=ay rfl;have A:Hid (j9 a b c d 2++(hZ c)=j9 a b c d 3):=ay rfl;have l:Hid (j9 a b c d 3++[d]=j9 a b c d 4):=ay rfl;have Y:=ay (xB a b c d);have D:Hid (d / 256=0):=ay aa
 clear g y q p u t s r
 go_in
 go_wp2_with fail;refine(AX w).mono ?_
 rintro e T ⟨rfl,hb1⟩;have hz1:=hb1.size
 go_wp2_with fail;obtain⟨g,z⟩:=au (T.heap.size);have L:=ay (Wr.new 373 T w.heap.size hz1);have hb2:aq w (T.alloc (.cells #[.slice none 0 0] 373)):=bw;rw[z] at L |-;generalize T.alloc (.cells #[.slice none 0 0] 373)=w2 at *;clear z
 go_loopg [25] 4 (λq i wr=>∃j:Nat,q=4 - j/\j<=4/\i=.int .i64 j/\Hid (Wr 373 w.heap.size wr g (j9 a b c d j))/\aq w wr)
 exact⟨0,rfl,aa,rfl,L,hb2⟩
 case round=>
  obtain⟨j,z,hj,rfl,r,s⟩:=hrel;have q:=ay z;have hz:=s.size;clear z
  rcases(show j=0\/j=1\/j=2\/j=3\/j=4 by omega) with rfl|rfl|rfl|rfl|rfl
  ·have R:=(s.cell (p:=⟨X,U,none⟩) V).trans H.o
   go_wp2_with (first
    | (go_at_call 276;refine((f _).o).mono ?_;rintro e O ⟨rfl,y⟩;have Q:=y.size)
    | (go_at_fn 405;refine((lL g w.heap.size a 0 (j9 a b c d 0) _ ((r.o.keep y).keep ((aC _ _).alloc (aD _) _)) m o (by have:=Y.o 0;omega)).mono ?_);rintro e N ⟨rfl,z,t⟩;have P:=t.size;rw[C.o] at z;have u:=ay z;clear z))
   go_roundg 3
   exact⟨1,rfl,aa,ag,u,bw⟩
   have:=q.o;omega
  ·have R:=(s.cell (p:=⟨X,U+1,none⟩) V).trans G.o
   go_wp2_with (first
    | (go_at_call 276;refine((f _).o).mono ?_;rintro e O ⟨rfl,y⟩;have Q:=y.size)
    | (go_at_fn 405;refine((lL g w.heap.size b 0 (j9 a b c d 1) _ ((r.o.keep y).keep ((aC _ _).alloc (aD _) _)) n W (by have:=Y.o 1;omega)).mono ?_);rintro e N ⟨rfl,z,t⟩;have P:=t.size;rw[B.o] at z;have u:=ay z;clear z))
   go_roundg 2
   exact⟨2,rfl,aa,ag,u,bw⟩
   have:=q.o;omega
  ·have R:=(s.cell (p:=⟨X,U+2,none⟩) V).trans F.o
   go_wp2_with (first
    | (go_at_call 276;refine((f _).o).mono ?_;rintro e O ⟨rfl,y⟩;have Q:=y.size)
    | (go_at_fn 405;refine((lL g w.heap.size c 0 (j9 a b c d 2) _ ((r.o.keep y).keep ((aC _ _).alloc (aD _) _)) S k (by have:=Y.o 2;omega)).mono ?_);rintro e N ⟨rfl,z,t⟩;have P:=t.size;rw[A.o] at z;have u:=ay z;clear z))
   go_roundg 1
   exact⟨3,rfl,aa,ag,u,bw⟩
   have:=q.o;omega
  ·have R:=(s.cell (p:=⟨X,U+3,none⟩) V).trans E.o
   have i:=D.o;have Zf:IntKind.i64.wrap 8=8:=rfl
   go_wp2_with (first
    | (go_at_call 276;refine((M _).o).mono ?_;rintro e O ⟨rfl,y⟩;have Q:=y.size)
    | (go_at_fn 401;refine((sy g w.heap.size d (j9 a b c d 3) _ ((r.o.keep y).keep ((aC _ _).alloc (aD _) _)) h d1 (by have:=Y.o 3;omega)).mono ?_);rintro e N ⟨rfl,z,t⟩;have P:=t.size;rw[l.o] at z;have u:=ay z;clear z))
   go_roundg 0
   exact⟨4,rfl,aa,ag,u,bw⟩
   have:=q.o;omega
  ·obtain⟨t,v,z,y⟩:=r.o
   have S:=z.k0;have u:=ay y;clear z y
   go_wp2
   go_ret2
   exact⟨v,rfl,u.o,s⟩
def AY(w:World):ar Oe 275 #[.string ⟨#[87,87,87,87,81,81,81]⟩] w (aw w (.bool true)):=by
 have t:=λw=>ay (ic 6 81 8 w Rn)
 have u:=λw=>ay (ic 4 87 4 w Rm)
 go_in
 go_wp2
 go_loopg [11] 7 (λq i wr=>∃j:Nat,q=7 - j/\j<=7/\i=.int .i64 j/\aq w wr)
 exact⟨0,rfl,aa,rfl,aC _ _⟩
 case round=>
  obtain⟨j,z,q,rfl,s⟩:=hrel;have y:=ay z;have p:=s.size;clear z
  rcases(show j=0\/j=1\/j=2\/j=3\/j=4\/j=5\/j=6\/j=7 by omega) with rfl|rfl|rfl|rfl|rfl|rfl|rfl|rfl
  ·go_wp2_with (go_at_call 276;refine((u _).o).mono ?_;rintro e v ⟨rfl,z⟩;have x:=z.size)
   go_roundg 6
   exact⟨1,rfl,aa,ag,bw⟩
   have:=y.o;omega
  ·go_wp2_with (go_at_call 276;refine((u _).o).mono ?_;rintro e v ⟨rfl,z⟩;have x:=z.size)
   go_roundg 5
   exact⟨2,rfl,aa,ag,bw⟩
   have:=y.o;omega
  ·go_wp2_with (go_at_call 276;refine((u _).o).mono ?_;rintro e v ⟨rfl,z⟩;have x:=z.size)
   go_roundg 4
   exact⟨3,rfl,aa,ag,bw⟩
   have:=y.o;omega
  ·go_wp2_with (go_at_call 276;refine((u _).o).mono ?_;rintro e v ⟨rfl,z⟩;have x:=z.size)
   go_roundg 3
   exact⟨4,rfl,aa,ag,bw⟩
   have:=y.o;omega
  ·go_wp2_with (go_at_call 276;refine((t _).o).mono ?_;rintro e v ⟨rfl,z⟩;have x:=z.size)
   go_roundg 2
   exact⟨5,rfl,aa,ag,bw⟩
   have:=y.o;omega
  ·go_wp2_with (go_at_call 276;refine((t _).o).mono ?_;rintro e v ⟨rfl,z⟩;have x:=z.size)
   go_roundg 1
   exact⟨6,rfl,aa,ag,bw⟩
   have:=y.o;omega
  ·go_wp2_with (go_at_call 276;refine((t _).o).mono ?_;rintro e v ⟨rfl,z⟩;have x:=z.size)
   go_roundg 0
   exact⟨7,rfl,aa,ag,bw⟩
   have:=y.o;omega
  ·go_wp2
   go_ret;exact⟨rfl,s⟩
def iZ(xa xb xc xd xe xf xg:Int):Nat->List Int
 | 0=>[]
 | 1=>jA 4 xa
 | 2=>jA 4 xa++jA 4 xb
 | 3=>jA 4 xa++jA 4 xb++jA 4 xc
 | 4=>jA 4 xa++jA 4 xb++jA 4 xc++jA 4 xd
 | 5=>jA 4 xa++jA 4 xb++jA 4 xc++jA 4 xd++jA 8 xe
 | 6=>jA 4 xa++jA 4 xb++jA 4 xc++jA 4 xd++jA 8 xe++jA 8 xf
 | _=>jA 4 xa++jA 4 xb++jA 4 xc++jA 4 xd++jA 8 xe++jA 8 xf++jA 8 xg
def xC(z y x v u t s:Int)(j:Nat):ao (iZ z y x v u t s j)<=70:=by
 have r:=iQ 4 z;have q:=iQ 4 y;have p:=iQ 4 x;have g:=iQ 4 v;have f:=iQ 8 u;have d:=iQ 8 t;have c:=iQ 8 s
 match j with
 | 0=>simp[iZ]
 | 1=>simp only[iZ,aE,aJ,aV];omega
 | 2=>simp only[iZ,aE,aJ,aV];omega
 | 3=>simp only[iZ,aE,aJ,aV];omega
 | 4=>simp only[iZ,aE,aJ,aV];omega
 | 5=>simp only[iZ,aE,aJ,aV];omega
 | 6=>simp only[iZ,aE,aJ,aV];omega
 | n+7=>simp only[iZ,aE,aJ,aV];omega
def Hh(z y x u t s r:Int)(v:Value)(w:World)(Q:jf .u64 w v [z,y,x,u,t,s,r])(xa0:0<=z)(Zg:z<4294967296)(Xd:0<=y)(Vi:y<4294967296)(Tu:0<=x)(Vj:x<4294967296)(Xe:0<=u)(Zh:u<4294967296)(Xf:0<=t)(Zi:t<18446744073709551616)(xf0:0<=s)(Zj:s<18446744073709551616)(Xg:0<=r)(Zk:r<18446744073709551616) :
 ar Oe 195 #[.string ⟨#[87,87,87,87,81,81,81]⟩,v] w λe E=>∃v,e=.returned (.tuple #[v,.int .i64 0])/\OwnB w.heap.size E v (iZ z y x u t s r 7)/\aq w E:=by
 obtain⟨AA,cn,rfl,hn,hc,q⟩:=Q.form;obtain⟨U,S,rfl,T,p⟩:=q.at_ (j:=0) (by simp)
 obtain⟨L,K,d,_,g⟩:=q.at_ (j:=1) (by simp)
 simp only[aW,bY,and_true] at d;obtain⟨rfl,rfl⟩:=d;obtain⟨L,K,d,_,f⟩:=q.at_ (j:=2) (by simp)
 simp only[aW,bY,and_true] at d;obtain⟨rfl,rfl⟩:=d;obtain⟨L,K,d,_,c⟩:=q.at_ (j:=3) (by simp)
 simp only[aW,bY,and_true] at d;obtain⟨rfl,rfl⟩:=d;obtain⟨L,K,d,_,b⟩:=q.at_ (j:=4) (by simp)
 simp only[aW,bY,and_true] at d;obtain⟨rfl,rfl⟩:=d;obtain⟨L,K,d,_,a⟩:=q.at_ (j:=5) (by simp)
 simp only[aW,bY,and_true] at d;obtain⟨rfl,rfl⟩:=d;obtain⟨L,K,d,_,Y⟩:=q.at_ (j:=6) (by simp)
 simp only[aW,bY,and_true] at d;obtain⟨rfl,rfl⟩:=d;simp only[aJ,aV,bn,bZ,bP] at hn p g f c b a Y |-;have D:=ay p;have C:=ay g;have B:=ay f;have A:=ay c;have l:=ay b;have m:=ay a;have o:=ay Y;have J:=λw=>ay (ic 6 81 8 w Rn)
 have V:mY 6=403:=rfl;rw[V] at J;have M:=λw=>ay (ic 4 87 4 w Rm)
 have R:mY 4=403:=rfl;rw[R] at M;have Tv:∀X w,(callFunc 403 X).run prog w=.ok (.enter 403 X) w:=λ_ _=>rfl
 have Tw:Hid (iZ z y x u t s r 0++(jA 4 z)=iZ z y x u t s r 1):=ay rfl;have Tx:Hid (iZ z y x u t s r 1++(jA 4 y)=iZ z y x u t s r 2):=ay rfl;have Xh:Hid (iZ z y x u t s r 2++(jA 4 x)=iZ z y x u t s r 3):=ay rfl;have Xi:Hid (iZ z y x u t s r 3++(jA 4 u)=iZ z y x u t s r 4):=ay rfl;have Xj:Hid (iZ z y x u t s r 4++(jA 8 t)=iZ z y x u t s r 5):=ay rfl;have Xk:Hid (iZ z y x u t s r 5++(jA 8 s)=iZ z y x u t s r 6):=ay rfl;have Xl:Hid (iZ z y x u t s r 6++(jA 8 r)=iZ z y x u t s r 7):=ay rfl;have X:=ay (xC z y x u t s r);have n:Hid (z / 4294967296=0):=ay aa
 have W:Hid (y / 4294967296=0):=ay aa
 have k:Hid (x / 4294967296=0):=ay aa
 have h:Hid (u / 4294967296=0):=ay aa
 clear Q q V R p g f c b a Y
 go_in
 go_wp2_with fail;refine(AY w).mono ?_
 rintro e I ⟨rfl,hb1⟩;have hz1:=hb1.size
 go_wp2_with fail;obtain⟨g,q⟩:=au (I.heap.size);have F:=ay (Wr.new 373 I w.heap.size hz1);have hb2:aq w (I.alloc (.cells #[.slice none 0 0] 373)):=bw;rw[q] at F |-;generalize I.alloc (.cells #[.slice none 0 0] 373)=w2 at *;clear q
 go_loopg [25] 7 (λq i wr=>∃j:Nat,q=7 - j/\j<=7/\i=.int .i64 j/\Hid (Wr 373 w.heap.size wr g (iZ z y x u t s r j))/\aq w wr)
 exact⟨0,rfl,aa,rfl,F,hb2⟩
 case round=>
  obtain⟨j,q,i,rfl,Y,a⟩:=hrel;have V:=ay q;have hz:=a.size;clear q
  rcases(show j=0\/j=1\/j=2\/j=3\/j=4\/j=5\/j=6\/j=7 by omega) with rfl|rfl|rfl|rfl|rfl|rfl|rfl|rfl
  ·have R:=(a.cell (p:=⟨U,S,none⟩) T).trans D.o
   have H:=n.o;have G:IntKind.i64.wrap 32=32:=rfl
   go_wp2_with (first
    | (go_at_call 276;refine((M _).o).mono ?_;rintro e O ⟨rfl,f⟩;have Q:=f.size)
    | (go_at_fn 403;refine((lq g w.heap.size 4 z (iZ z y x u t s r 0) _ ((Y.o.keep f).keep ((aC _ _).alloc (aD _) _)) xa0 aa  aa (by have:=X.o 0;omega)).mono ?_);rintro e N ⟨rfl,q,b⟩;have P:=b.size;rw[Tw.o] at q;have c:=ay q;clear q))
   go_roundg 6
   exact⟨1,rfl,aa,ag,c,bw⟩
   have:=V.o;omega
  ·have R:=(a.cell (p:=⟨U,S+1,none⟩) T).trans C.o
   have H:=W.o;have G:IntKind.i64.wrap 32=32:=rfl
   go_wp2_with (first
    | (go_at_call 276;refine((M _).o).mono ?_;rintro e O ⟨rfl,f⟩;have Q:=f.size)
    | (go_at_fn 403;refine((lq g w.heap.size 4 y (iZ z y x u t s r 1) _ ((Y.o.keep f).keep ((aC _ _).alloc (aD _) _)) Xd aa  aa (by have:=X.o 1;omega)).mono ?_);rintro e N ⟨rfl,q,b⟩;have P:=b.size;rw[Tx.o] at q;have c:=ay q;clear q))
   go_roundg 5
   exact⟨2,rfl,aa,ag,c,bw⟩
   have:=V.o;omega
  ·have R:=(a.cell (p:=⟨U,S+2,none⟩) T).trans B.o
   have H:=k.o;have G:IntKind.i64.wrap 32=32:=rfl
   go_wp2_with (first
    | (go_at_call 276;refine((M _).o).mono ?_;rintro e O ⟨rfl,f⟩;have Q:=f.size)
    | (go_at_fn 403;refine((lq g w.heap.size 4 x (iZ z y x u t s r 2) _ ((Y.o.keep f).keep ((aC _ _).alloc (aD _) _)) Tu aa  aa (by have:=X.o 2;omega)).mono ?_);rintro e N ⟨rfl,q,b⟩;have P:=b.size;rw[Xh.o] at q;have c:=ay q;clear q))
   go_roundg 4
   exact⟨3,rfl,aa,ag,c,bw⟩
   have:=V.o;omega
  ·have R:=(a.cell (p:=⟨U,S+3,none⟩) T).trans A.o
   have H:=h.o;have G:IntKind.i64.wrap 32=32:=rfl
   go_wp2_with (first
    | (go_at_call 276;refine((M _).o).mono ?_;rintro e O ⟨rfl,f⟩;have Q:=f.size)
    | (go_at_fn 403;refine((lq g w.heap.size 4 u (iZ z y x u t s r 3) _ ((Y.o.keep f).keep ((aC _ _).alloc (aD _) _)) Xe aa  aa (by have:=X.o 3;omega)).mono ?_);rintro e N ⟨rfl,q,b⟩;have P:=b.size;rw[Xi.o] at q;have c:=ay q;clear q))
   go_roundg 3
   exact⟨4,rfl,aa,ag,c,bw⟩
   have:=V.o;omega
  ·have R:=(a.cell (p:=⟨U,S+4,none⟩) T).trans l.o
   go_wp2_with (first
    | (go_at_call 276;refine((J _).o).mono ?_;rintro e O ⟨rfl,f⟩;have Q:=f.size)
    | (go_at_fn 403;refine((lq g w.heap.size 8 t (iZ z y x u t s r 4) _ ((Y.o.keep f).keep ((aC _ _).alloc (aD _) _)) Xf aa  aa (by have:=X.o 4;omega)).mono ?_);rintro e N ⟨rfl,q,b⟩;have P:=b.size;rw[Xj.o] at q;have c:=ay q;clear q))
   go_roundg 2
   exact⟨5,rfl,aa,ag,c,bw⟩
   have:=V.o;omega
  ·have R:=(a.cell (p:=⟨U,S+5,none⟩) T).trans m.o
   go_wp2_with (first
    | (go_at_call 276;refine((J _).o).mono ?_;rintro e O ⟨rfl,f⟩;have Q:=f.size)
    | (go_at_fn 403;refine((lq g w.heap.size 8 s (iZ z y x u t s r 5) _ ((Y.o.keep f).keep ((aC _ _).alloc (aD _) _)) xf0 aa  aa (by have:=X.o 5;omega)).mono ?_);rintro e N ⟨rfl,q,b⟩;have P:=b.size;rw[Xk.o] at q;have c:=ay q;clear q))
   go_roundg 1
   exact⟨6,rfl,aa,ag,c,bw⟩
   have:=V.o;omega
  ·have R:=(a.cell (p:=⟨U,S+6,none⟩) T).trans o.o
   go_wp2_with (first
    | (go_at_call 276;refine((J _).o).mono ?_;rintro e O ⟨rfl,f⟩;have Q:=f.size)
    | (go_at_fn 403;refine((lq g w.heap.size 8 r (iZ z y x u t s r 6) _ ((Y.o.keep f).keep ((aC _ _).alloc (aD _) _)) Xg aa  aa (by have:=X.o 6;omega)).mono ?_);rintro e N ⟨rfl,q,b⟩;have P:=b.size;rw[Xl.o] at q;have c:=ay q;clear q))
   go_roundg 0
   exact⟨7,rfl,aa,ag,c,bw⟩
   have:=V.o;omega
  ·obtain⟨b,v,q,p⟩:=Y.o
   have c:=q.k0;have f:=ay p;clear q p
   go_wp2
   go_ret2
   exact⟨v,rfl,f.o,a⟩
end D
end Go.Proofs.YtdicblkhpcphfaaGreat
