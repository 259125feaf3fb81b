/- Parts. -/
import Derived.Test.YtdicblkhpcphfaaGreatPU19
set_option maxRecDepth 100000
set_option maxHeartbeats 0
set_option linter.all false
namespace Go.Proofs.YtdicblkhpcphfaaGreat
open Tryz Go.RowKit Go.Lib Go.Shelf
open _root_.List renaming length→ab0
open Go.IntKind renaming wrap→ad0
open _root_.Go renaming Calls→af4
open Tryz renaming prog→af5
namespace D
variable{R bk dg hi lo m u y:Nat}{gr:Bool}{l:List Pr}{kd p2 p3 p4:Value}
def On(ok:jn lo hi dg u m gr bk l):jn lo (iv u m hi bk) dg u m false bk l/\iv u m (iv u m hi bk) bk=iv u m hi bk:=by
 have d:=ok.sh.h0;have y:=ok.sh.h1;have q:hi<=iv u m hi bk/\iv u m hi bk<=9223372036854775807/\bk=1+jg u m (iv u m hi bk):=by
  by_cases h:bk=1+jg u m hi
  .rw[iv,aH h];exact⟨aD _,y,h⟩
  .rw[iv,aF h]
   have a:=ok.fst;rcases ok.mx with z|⟨p,U,v,r,_,c⟩
   .exact absurd z h
   have V:=lU (u:=u) (m:=m) r;obtain⟨j,X⟩:∃j,bk=j+2:=⟨bk - 2,aa⟩;have x:u+m+(j+1)<=63:=aa;have t:oC u m bk=2 ^ (u+m+(j+1)) - 1:=by
    unfold oC;split
    .rename_i s
     have e:u+m+(j+1)=63:=aa;rw[e]
    .have e:bk - 1+u+m=u+m+(j+1):=aa
     rw[e]
   have T:2 ^ (u+m+(j+1))=2 * 2 ^ (u+m+j):=by rw[show u+m+(j+1)=(u+m+j)+1 by omega,cC,cJ]
   have S:1<=2 ^ (u+m+j):=fV aa;have R:2 ^ (u+m+(j+1))<=2 ^ 63:=bM aa x;have Y:hi<2 ^ (u+m+(j+1)):=(yn aa).1 aa;rw[t];have g:jg u m (2 ^ (u+m+(j+1)) - 1)<=j+1:=(yn aa).2 aa;have f:¬jg u m (2 ^ (u+m+(j+1)) - 1)<=j:=λs=>by
    have:=(yn (u:=u) (m:=m) (b:=j) (v:=2 ^ (u+m+(j+1)) - 1) aa).1 s;omega
   exact⟨aa,aa,aa⟩
 obtain⟨v,x,z⟩:=q;refine⟨⟨⟨ok.sh.d0,ok.sh.d1,ok.sh.l0,aa,x,ok.sh.ue,ok.sh.me,ok.sh.um⟩,ok.jk,ok.pos,ok.sum,ok.key,aa,.inl z,λ_=>z⟩,?_⟩;generalize iv u m hi bk=R at *;rw[iv,aH z]
def Vv(j:Nat):Nat:=if j<=4 then 4 * j else 16+8 * (j - 4)
def Lo(v:Value)(w:World)(h:jC .u8 w v (hwB lo R dg l))(S:dg<4294967296)(N:lo<18446744073709551616)(U:R<18446744073709551616)(O:ab0 (lB l)<=4000000000):af4 af5 264 #[.string ⟨#[87,87,87,87,81,81,81]⟩,v] w λe Y=>∃z,e=.returned (.tuple #[z,af6 40,af6 0])/\g8 FJ w.heap.size Y z [478450451,(ab0 (lB l):Int),0,(dg:Int),(lo:Int),(R:Int),4607182418800017408]/\af3 w Y:=by
 have T:=rT lo R dg l;have q:(hwB lo R dg l).drop 0=jS 4 478450451++(jS 4 (ab0 (lB l))++(jS 4 0++(jS 4 dg++(jS 8 lo++(jS 8 R++(jS 8 4607182418800017408++lB l)))))):=by
  unfold hwB uZ;simp only[aN,bj]
 generalize hwB (lo:Int) R dg l=s at *;generalize lB l=K at *;have t:∀{a k:Nat} {x r:List Int},ab0 x=k->s.drop a=x++r->s.drop (a+k)=r:=by
  intro a k x r z e;rw[<-cQ,e,fO z]
 have p:=t (ix 4 _) q;have f:=t (ix 4 _) p;have d:=t (ix 4 _) f;have c:=t (ix 4 _) d;have b:=t (ix 8 _) c;have X:=t (ix 8 _) b;have z:ab0 s<=1000000000000:=aa;refine Jr ⟨#[87,87,87,87,81,81,81]⟩ s [478450451,(ab0 K:Int),0,(dg:Int),(lo:Int),(R:Int),4607182418800017408] Vv v w h z Ef rfl ad rfl (λj _=>by simp only[aK,aY] at *;unfold Vv;split<;>omega) ?_;intro j V Q g u y;have P:j<7:=V;obtain rfl|rfl|rfl|rfl|rfl|rfl|rfl:j=0\/j=1\/j=2\/j=3\/j=4\/j=5\/j=6:=aa
 .exact r8 (n:=478450451) u y z q aa  aa
 .exact r8 (n:=(ab0 K:Int)) u y z p aa  aa
 .exact r8 (n:=0) u y z f aa  aa
 .exact r8 (n:=(dg:Int)) u y z d aa  aa
 .exact vi (n:=(lo:Int)) u y z c aa  aa
 .exact vi (n:=(R:Int)) u y z b aa  aa
 .exact vi (n:=4607182418800017408) u y z X aa  aa
def BW(y x:Nat)(w:World):CallsD prog 332 #[aq y,aq x] .returning w λe u t=>e=.returned (.tuple #[])/\u=.returning/\t=w:=by
 refine callsD_of_wpS func332 rfl λz v v=>?_;apply wpS_seq
 apply wpS_region
 simp[wpOpsS,go_sem,recoverD,v,ntmps332,Exit.thenS];refine wpS_of_wp ?_;go_wp2;cases z
 simp_all[bodyPostS,results,Tryz.results332]
def Hl(z y:Nat)(w:World)(R:Ending->World->Prop)(x:Array Value)(r:x[2]?=some (aq z))(q:x[3]?=some (aq y))
 (v:Value) (u:w.cell? (af7 z 0)=some v) (t:w.cell? (af7 y 0)=some (af6 0)) (s:R (.returned (.tuple #[v,af6 0])) w) :
 Leaves prog Tryz.f265 x R [{target:=.fn (.func 332) #[],args:=#[aq z,aq y]}] .returning w:=by
 refine leaves_cons (f:=332) (args:=#[aq z,aq y]) ad (by simp[go_sem]) ?_;refine(BW z y w).M ?_;rintro e p g ⟨rfl,rfl,rfl⟩;refine⟨.tuple #[v,af6 0],?_,s⟩;simp[results,Tryz.results265,go_sem,r,q,u,t]
def jC.from_{k:IntKind}{w:World}{g off c:Nat}{l:List Int}(h:jC k w (.slice (some (af7 g off)) (ab0 l) c) l)(n:Nat)(p:n<=ab0 l):jC k w (.slice (some (af7 g (off+n))) (ab0 l - n) (c - n)) (l.drop n):=by
 obtain⟨A,t,e,r,q,y⟩:=h.form;injection e with e1 e2 e3;subst e1 e3;refine⟨ad,_,c - n,by rw[aW],by rw[aW];omega,by unfold maxLen;omega,λz=>?_⟩;rw[aW] at z;obtain⟨s,f,z,u,x⟩:=y aa;injection z with z;injection z with eg eo;subst eg eo;refine⟨g,off+n,rfl,u,λj v=>?_⟩;rw[aW,cW] at v;have:=x (n+j) aa;rw[de,this];simp[gm,dz,aL (show n+j<ab0 l by omega)]
def Hm(v:Value)(w:World)(h:jC .u8 w v (hwB lo R dg l))(ok:jn lo R dg u m false bk l)(d:iv u m R bk=R):af4 af5 265 #[v] w λe f=>∃x,e=.returned (.tuple #[aq x,af6 0])/\mE x lo R dg u m false bk l (Gr (λ_=>False) w f) f/\af3 w f:=by
 have HR:=ax h;have hcl:=mY l;have hll:=ok.len;have hdg:=ok.sh.d1;have hRb:=ok.sh.h1;have hlo:lo<=9223372036854775807:=by have:=ok.sh.h0;omega
 have hmb:=ok.sh.mb;have q:1+jg u m R=bk:=(ok.U9 rfl).Y;have hb0:=ok.b0;have hb1:=ok.b1;have r:1<=2 ^ (m - 1):=fV aa;have s:2 ^ (m - 1)<=131072:=(lY aa :2 ^ (m - 1)<=2 ^ 17);have hM0:1<=pc m bk:=by unfold pc;exact cL (by omega:1<=bk+1) r
 have hM1:pc m bk<=65 * 131072:=by unfold pc;exact cL aa s
 have CG:Hid (∀t,af3 w t->_):=ax (λt z=>Lo v t (h.K z) aa  aa  aa  aa);have CM:Hid (∀t,_):=ax (λt=>Dv t ok.sh);have CB:Hid (∀(t:World) (g:Nat),ml t g lo R dg u m->_):=ax (λt g h=>kR (w:=t) (g:=g) R h ok.sh.um aa);have CC:Hid (∀(t:World) (g:Nat),ml t g lo R dg u m->af4 af5 335 #[aq g,af6 bk] t λe f=>e=.returned (af6 (pc m bk:Nat))/\t=f):=ax (λt g h=>Ha bk h hmb.1 hmb.2 hb0 hb1);have CE:Hid (∀(v:Value) (t:World),jC .u8 t v (lB l)->_):=ax (λv t z=>Ln (pc m bk) v t z ok (λp y=>(ok.cells p y).2) hM0 aa);have CL:Hid (∀(v:Value) (t:World),iQ iF t v l->_):=ax (λv t z=>Ju v t z ok);have CW:Hid (∀(x:Nat) (F:Ft) (t:World),mE x lo R dg u m false bk l F t->_):=ax (λx F t h=>Eh t h ok);rw[d] at CW;rw[q] at CB;have y:=rT lo R dg l;have X40:Hid ((hwB lo R dg l).drop 40=lB l):=ax (by
  have e:ab0 (uZ lo R dg (ab0 (lB l)))=40:=by unfold uZ;simp only[aE,ix]
  unfold hwB;exact fO e)
 have⟨C,z⟩:=ar (ab0 (lB l));rw[z] at CG hcl y;generalize hwB (lo:Int) R dg l=bs at *;generalize lB l=K at *;generalize pc m bk=M at *;clear h ok d q r s z;have QS:ab0 bs<=1000000000000:=aa;obtain⟨A0,c0,ev,hc0,hcm,s⟩:=(HR.o).form;obtain⟨g0,o0,rfl,hg0,_⟩:=s aa;have⟨U,z⟩:=ar (ab0 bs);have Tz:=ax z;rw[z] at ev hc0 y QS;subst ev;have HBL:=ax y;have Yf:40<=U:=aa;clear s z;have e1:ad0 .i64 ((U:Int) - 40)=(C:Int):=ah;clear y;have EW:Hid (ad0 .i64 ((U:Int) - 40)=(C:Int)/\ad0 .u64 (C:Int)=(C:Int)):=ax ⟨e1,by rw[iy];omega⟩;have EC:Hid (ad0 .i64 (lo:Int)=(lo:Int)/\ad0 .i64 (R:Int)=(R:Int)/\ad0 .i64 (dg:Int)=(dg:Int)):=ax ⟨ah,ah,ah⟩;clear e1;go_enter_defers func265,ntmps265
 go_wp21;obtain⟨t,s⟩:∃t,t=(w.alloc (.cells #[.pointer none] 119)).alloc (.cells #[af6 0] 43):=⟨_,rfl⟩;have r:af3 w t:=by rw[s];exact((aC _ _).alloc (aD _) _).alloc ad _
 have B2:Hid (g7 t w.heap.size 119 #[.pointer none]):=by show g7 _ _ _ _;rw[s];exact(g7.new _ _ _).alloc _
 have B3:Hid (g7 t (w.heap.size+1) 43 #[af6 0]):=by
  show g7 _ _ _ _;rw[s];have h:=g7.new (w.alloc (.cells #[.pointer none] 119)) 43 #[af6 0]
  rwa [aI] at h
 have⟨y,z⟩:=ar (w.heap.size);have So:=ax z;rw[<-s];rw[z] at B2 B3 |-;have l3:=B3.o.lt;clear s z;have Hb1:=ax r;have hne:y≠y+1:=aa
 refine WE (CG.o t r) ?_;rintro v4 W ⟨z,hb2⟩;clear r;have Hb2:=ax (Hb1.o.T (hb2.M Hb1.o.size));have D2:=ax (B2.o.K hb2);have D3:=ax (B3.o.K hb2);obtain⟨d,c4,rfl,hg4,ad1,hc4,ad2⟩:=z.pos ad;have O4:=ax z;clear z;have x3:=D3.o.k0;have y3:=D3.o.F 0;have⟨s,a⟩:=ar (W.setCell (af7 (y+1) 0) (af6 0));have E2:Hid (g7 s y 119 #[.pointer none]):=by rw[<-a];exact ax (D2.o.far (p:=af7 (y+1) 0) ad _)
 have E3:Hid (g7 s (y+1) 43 #[af6 0]):=by rw[<-a];exact ax (D3.o.hJ 0 _)
 have n43:¬(d=y+1):=aa;have X:Hid (g8 FJ t.heap.size s (.slice (some (af7 d 0)) 7 c4) [478450451,(C:Int),0,(dg:Int),(lo:Int),(R:Int),4607182418800017408]):=by rw[<-a];exact ax (O4.o.far (p:=af7 (y+1) 0) (λe=>n43 (bJ e)) _)
 have z:Touch (λk=>k=y+1) W s:=by rw[<-a];exact(show Touch (λk=>k=y+1) W W from Touch.refl _ W).setCell (p:=af7 (y+1) 0) (.inl rfl) _
 have Hb3:=ax (Hb2.o.T (z.below (λk c=>by have:=So.o;omega) Hb2.o.size));have L:=E3.o.k0;have F:s.cell? (af7 d 0)=some (.int .u64 478450451):=X.o.cellAt (j:=0) (by simp) 0 ab;have G:s.cell? (af7 d 1)=some (.int .u64 C):=X.o.cellAt (j:=1) (by simp) 0 ab;have q3:s.cell? (af7 d 3)=some (.int .u64 dg):=X.o.cellAt (j:=3) (by simp) 0 ab;have N:s.cell? (af7 d 4)=some (.int .u64 lo):=X.o.cellAt (j:=4) (by simp) 0 ab;have O:s.cell? (af7 d 5)=some (.int .u64 R):=X.o.cellAt (j:=5) (by simp) 0 ab;have H:(dg:Int)<=5:=aa;have I:(lo:Int)<9223372036854775808:=aa;have J:(R:Int)<9223372036854775808:=aa;have⟨e1,e2⟩:=EW.o;clear z;go_wp21;refine Ix (pJ _) ?_;clear e1 e2;go_wp21;refine Ix (pJ _) ?_;have T:af3 s s.drew:=(aC _ _).drew;go_upto_region 5 with fail;refine jh (af3 s) (hQ 0 13 (ik 13 (ik 14 []))) (T) ?_;iterate 13 refine ib (h:=λf Y=>by have q3':=(Y.C (p:=af7 d 3) (X.o.lt d rfl).2).T q3;have q4':=(Y.C (p:=af7 d 4) (X.o.lt d rfl).2).T N;have q5':=(Y.C (p:=af7 d 5) (X.o.lt d rfl).2).T O;obtain⟨e1,e2,e3⟩:=EC.o;exact af8) ?_
 refine iz λK q=>?_;go_simp;have Q:af3 s (s.drew.alloc (.cells #[af6 0,af6 0,af6 0] 31)):=T.alloc ad _;refine q _ _ (Q) ?_;clear q K;refine iz λK q=>?_;go_simp;have S:af3 s (s.alloc (.cells #[af6 lo,af6 R,af6 dg] 31)).drew:=((aC _ _).alloc (aD _) _).drew;refine q _ _ (S) ?_;clear q K;refine g4 ?_;have V:=E3.o.lt;have⟨P,b⟩:=ar (s.heap.size);have⟨w4,g⟩:=ar ((s.alloc (.cells #[af6 lo,af6 R,af6 dg] 31)).drew);have K5:Hid (g7 w4 P 31 #[af6 lo,af6 R,af6 dg]):=by rw[<-g,<-b];exact ax (g7.new _ _ _)
 have r:af3 s w4:=by rw[<-g];exact((aC _ _).alloc (aD _) _).drew
 have F2:=ax (E2.o.K r);have F3:=ax (E3.o.K r);have Hb4:=ax (Hb3.o.T (r.M Hb3.o.size));have l5:y+1<P:=by rw[<-b];exact V
 rw[g,b];clear g b Q S T r F G q3 N O L x3 y3 a H I J V;obtain⟨b,g,k2⟩:=K5.o.c3;go_wp21;refine WE (CM.o w4) ?_;rintro G F ⟨hgm,r,hb5⟩;have HM:=ax r;have lK:=K5.o.lt;have Hb5:=ax (Hb4.o.T (hb5.M Hb4.o.size));have G2:=ax (F2.o.K hb5);have G3:=ax (F3.o.K hb5);have K6:=ax (K5.o.K hb5);clear r b g k2;have u3:=G3.o.k0;have V:=G3.o.F 0;have⟨Q,g⟩:=ar (F.setCell (af7 (y+1) 0) (af6 0));have I2:Hid (g7 Q y 119 #[.pointer none]):=by rw[<-g];exact ax (G2.o.far (p:=af7 (y+1) 0) ad _)
 have I3:Hid (g7 Q (y+1) 43 #[af6 0]):=by rw[<-g];exact ax (G3.o.hJ 0 _)
 have nb5:P≠y+1:=aa;have ngm:G≠y+1:=aa;have K7:Hid (g7 Q P 31 #[af6 lo,af6 R,af6 dg]):=by rw[<-g];exact ax (K6.o.far (p:=af7 (y+1) 0) nb5 _)
 have HM6:Hid (ml Q G lo R dg u m):=by rw[<-g];exact ax (g7.far HM.o (p:=af7 (y+1) 0) ngm _)
 have r:Touch (λk=>k=y+1) F Q:=by rw[<-g];exact(show Touch (λk=>k=y+1) F F from Touch.refl _ F).setCell (p:=af7 (y+1) 0) (.inl rfl) _
 have Vm:=ax (Hb5.o.T (r.below (λk c=>by have:=So.o;omega) Hb5.o.size));have j3:=I3.o.k0;have a:=K7.o.k1;clear r;go_wp21;refine Ix (pJ _) ?_;go_wp21;refine RX (CB.o Q G HM6.o) ?_;intro r J;have Ti:=ax (Vm.o.T (J.M Vm.o.size));have J2:=ax (I2.o.K J);have J3:=ax (I3.o.K J);have K8:=ax (K7.o.K J);have HM7:Hid (ml r G lo R dg u m):=ax (g7.K HM6.o J);have ad3:=g7.lt HM7.o;have TF:=K8.o.lt;have Yg:Hid (jC .u8 r (.slice (some (af7 g0 (o0+40))) (U - 40) (c0 - 40)) K):=by
  have h:=HR.o.K Ti.o;rw[<-Tz.o] at h;have b:=jC.from_ h 40 (by rw[Tz.o];exact Yf);rw[X40.o,Tz.o] at b;exact ax b
 have Yh:¬(P=y\/P=y+1):=aa;clear u3 V g j3 a;have a:=K8.o.k0;have b:=K8.o.k1;have g:=K8.o.k2;have CX:=ax (aB a (aB b g));clear a b g;have I:Touch (λk=>k=y\/k=y+1) r r.drew:=(Touch.refl _ r).drew;have T:af3 r r.drew:=(aC _ _).drew;have i:(40:Int)<=(U:Int):=aa;have n:¬(c0=40):=by have:=HBL.o;omega
 go_upto_region 9 with fail;have Z:=ax (λ(f:World) (Y:(Touch (λk=>k=y\/k=y+1) r) f)=>(aB ((g9 Y 0 TF Yh).T CX.o.1) (aB ((g9 Y 1 TF Yh).T CX.o.2.1) ((g9 Y 2 TF Yh).T CX.o.2.2))));refine jh (Touch (λk=>k=y\/k=y+1) r) (hQ 0 6 (ik 6 (ik 7 (ik 8 (hQ 9 3 (ik 12 (ik 13 []))))))) (I) ?_;iterate 6 refine ib ?_
 refine iz λK q=>?_;go_simp;refine Ix (CC.o r.drew G (g7.K HM7.o T)) ?_;refine q _ _ (I) ?_;clear q K;refine iz λK q=>?_;go_simp;refine WE (CE.o _ r.drew (Yg.o.K T)) ?_;rintro v9 o ⟨g,Q0⟩;have O9:=ax g;have A:af3 r o:=T.T Q0;have E:Touch (λk=>k=y\/k=y+1) r o:=Touch.of_below A (aD _);clear g;refine q _ _ (E) ?_;clear q K;refine iz λK q=>?_;go_simp;refine WE (CL.o v9 o O9.o.rd) ?_;rintro x b ⟨g,TG⟩;have HX:=ax g;have B:af3 r b:=A.T (TG.M A.size);have L:Touch (λk=>k=y\/k=y+1) r b:=Touch.of_below B (aD _);clear g;refine q _ _ (L) ?_;clear q K;iterate 3 refine ib ?_
 refine iz λK q=>?_;have L2:=ax (J2.o.K B);have L3:=ax (J3.o.K B);have g:=L2.o.k0;have a:=L2.o.F 0;go_simp;have V:Touch (λk=>k=y\/k=y+1) r (b.setCell (af7 y 0) (aq x)):=L.setCell (p:=af7 y 0) (.inl (.inl rfl)) _;clear g a;refine q _ _ (V) ?_;clear q K;refine iz λK q=>?_;have M3:=ax (L3.o.far (p:=af7 y 0) ad (aq x));have H:=M3.o.k0;have D:=M3.o.F 0;go_simp;have Y:Touch (λk=>k=y\/k=y+1) r ((b.setCell (af7 y 0) (aq x)).setCell (af7 (y+1) 0) (af6 0)):=V.setCell (p:=af7 (y+1) 0) (.inl (.inr rfl)) _;refine q _ _ (Y) ?_;clear q K;refine g4 ?_;have NS:=ax (Ti.o.T (B.M Ti.o.size));have Uw:=A.size;have⟨S,g⟩:=ar (((b.setCell (af7 y 0) (aq x)).setCell (af7 (y+1) 0) (af6 0)));have N2:Hid (g7 S y 119 #[aq x]):=by rw[<-g];exact ax ((L2.o.hJ 0 _).far hne _)
 have N3:Hid (g7 S (y+1) 43 #[af6 0]):=by rw[<-g];exact ax (M3.o.hJ 0 _)
 have a:Touch (λk=>k=y\/k=y+1) b S:=by rw[<-g];exact((Touch.refl _ b).setCell (p:=af7 y 0) (.inl (.inl rfl)) _).setCell (p:=af7 (y+1) 0) (.inl (.inr rfl)) _
 have hnF:∀k,Gr (λ_=>False) o b k->¬(k=y\/k=y+1):=λk c=>by have:=c.elim False.elim id;omega
 have HD:=ax ((i_ x lo R dg u m false bk l).far HX.o a hnF);have Vw:=ax (NS.o.T (a.below (λk c=>by have:=So.o;rcases c with h|h<;>omega) NS.o.size));have N:=N2.o.k0;have O:=N3.o.k0;rw[g];clear g a Y V L E I H D i n;go_wp21;refine Ix (pJ _) ?_;go_wp21;refine WE (CW.o _ _ S HD.o) ?_;rintro v7 w12 ⟨g,L⟩;have O7:=ax g;have HD7:=ax ((i_ x lo R dg u m false bk l).K HD.o L);have Vx:=ax (Vw.o.T (L.M Vw.o.size));have S2:=ax (N2.o.K L);have S3:=ax (N3.o.K L);have lN3:=N3.o.lt;clear g N O;have x3:=S3.o.k0;have y3:=S3.o.F 0;have⟨V,TH⟩:=ar (w12.setCell (af7 (y+1) 0) (af6 0));have U2:Hid (g7 V y 119 #[aq x]):=by rw[<-TH];exact ax (S2.o.far hne _)
 have O:Hid (g7 V (y+1) 43 #[af6 0]):=by rw[<-TH];exact ax (S3.o.hJ 0 _)
 have Y:Hid (Touch (λk=>k=y\/k=y+1) w12 V):=by rw[<-TH];exact ax ((Touch.refl _ w12).setCell (p:=af7 (y+1) 0) (.inl (.inr rfl)) _)
 have Yi:=ax ((i_ x lo R dg u m false bk l).far HD7.o Y.o hnF);have D:=ax (Vx.o.T (Y.o.below (λk c=>by have:=So.o;rcases c with h|h<;>omega) Vx.o.size));have O13:Hid (OwnB S.heap.size V v7 bs):=ax (hO.stay O7.o (λk e=>Y.o.block k (hO.lt O7.o k e).2 (λh=>by have:=(hO.lt O7.o k e).1;rcases h with h|h<;>omega)));have EQ:=ax (lJ v7 (.slice (some (af7 g0 o0)) U c0) bs bs V (hO.rd O13.o) (Rd.K HR.o D.o) (by rw[Tz.o];exact QS) (by rw[Tz.o];exact QS));rw[bN rfl] at EQ;have j3:=O.o.k0;go_wp2_with (first|(go_at_call 170;refine RX EQ.o ?_;intro I g;have k2:=(U2.o.K g).k0;have k3:=(O.o.K g).k0;have q2:=(U2.o.K g).F 0;have q3:=(O.o.K g).F 0;have aa5:=g)|(go_at_call 333;refine Ix (pJ _) ?_))
 refine(show Leaves prog Tryz.f265 _ _ _ .returning _ from ?_);have⟨N,a⟩:=ar ((I.setCell (af7 y 0) (aq x)).setCell (af7 (y+1) 0) (af6 0));have V2:g7 N y 119 #[aq x]:=by rw[<-a];exact((U2.o.K g).hJ 0 _).far hne _
 have V3:g7 N (y+1) 43 #[af6 0]:=by rw[<-a];exact((O.o.K g).far (p:=af7 y 0) ad _).hJ 0 _
 have i:Touch (λk=>k=y\/k=y+1) I N:=by rw[<-a];exact((Touch.refl _ I).setCell (p:=af7 y 0) (.inl (.inl rfl)) _).setCell (p:=af7 (y+1) 0) (.inl (.inr rfl)) _
 have E:=(i_ x lo R dg u m false bk l).far ((i_ x lo R dg u m false bk l).K Yi.o g) i hnF;have H:=D.o.T (g.M D.o.size);have z:=H.T (i.below (λk c=>by have:=So.o;rcases c with h|h<;>omega) H.size);rw[a];refine Hl y (y+1) _ _ _ rfl rfl _ (V2.C 0) (V3.C 0) ⟨x,rfl,(i_ x lo R dg u m false bk l).more E (λk c=>?_) (jt (λk h=>h.elim) z.size),z⟩;have n:=(i_ x lo R dg u m false bk l).low E k c;have p:=c.elim False.elim id;exact .inr ⟨bf Ti.o.size (bf Uw p.1),n⟩
def Ei:Bool->Int
 | true=>1
 | false=>0
def BX(z:Bool):(z=true/\Ei z=1)\/(z=false/\Ei z=0):=by cases z<;>simp[Ei]
def hjB(lo hi dg R:Int)(gr:Bool)(l:List Pr):List Int:=iZ lo hi dg (Ei gr) 4++hwB lo R dg l
def Ej{x:Nat}{F:Ft}(w:World)(r:g7 w y 124 #[kd,aq x,p2,p3,p4])(h:mE x lo hi dg u m gr bk l F w)(ok:jn lo hi dg u m gr bk l):af4 af5 124 #[aq y] w λe d=>∃v,e=.returned v/\OwnB w.heap.size d v (hjB lo hi dg (iv u m hi bk) gr l)/\af3 w d:=by
 have S:=i_ x lo hi dg u m gr bk l;have Y:=ax r;have N:=ax (og w h);have M:Hid (∀t,af3 w t->_):=ax (λt z=>tR t (S.K h z));have L:Hid (∀t,af3 w t->_):=ax (λt z=>Eh t (S.K h z) ok);have hlo:lo<=9223372036854775807:=by have:=ok.sh.h0;have:=ok.sh.h1;omega
 have hhi:=ok.sh.h1;have hdg:=ok.sh.d1;have hwl:=rT lo (iv u m hi bk) dg l;have hcl:=mY l;have hll:=ok.len;have b:=ax (BX gr);have z:Hid (hjB lo hi dg (iv u m hi bk) gr l=iZ lo hi dg (Ei gr) 4++hwB lo (iv u m hi bk) dg l):=ax rfl;rw[z.o];have s:=r.k1;clear z S h ok r;generalize Ei gr=D at *;have U:0<=D/\D<256:=by have:=b.o;omega
 have K:Hid (∀(v:Value) (t:World),jC .u64 t v [(lo:Int),(hi:Int),(dg:Int),D]->_):=ax (λv t z=>Li lo hi dg D v t z aa  aa  aa  aa  aa  aa U.1 U.2);have J:Hid (ad0 .u64 (lo:Int)=(lo:Int)/\ad0 .u64 (hi:Int)=(hi:Int)/\ad0 .u64 (dg:Int)=(dg:Int)):=ax ⟨by rw[iy];omega,by rw[iy];omega,by rw[iy];omega⟩;have Om:=r9 lo hi dg D 4;generalize iZ lo hi dg D 4=X at *;generalize hwB (lo:Int) (iv u m hi bk) dg l=a at *;go_in;go_wp21;refine RX N.o ?_;intro t T;go_upto_region 2 with fail;have⟨C,p⟩:=ar (t.heap.size);have⟨v,q⟩:=ar (t.alloc (.cells #[af6 lo,af6 hi,af6 dg] 31));have I:=an q p;have g:=ao q;have r:af3 w v:=T.T (g.M T.size);rw[q,p];clear q p g s;have s:=(Y.o.K r).k1;go_wp21;refine Ix (M.o v r) ?_;obtain⟨W,i,h⟩:=I.o.c3;rcases b.o with⟨rfl,rfl⟩|⟨rfl,rfl⟩
 all_goals
  obtain⟨g,c,V⟩:=J.o;go_wp21;refine WE (K.o _ _ (jC.Jw 36 .u64 v [(lo:Int),(hi:Int),(dg:Int),_] _ rfl 4 rfl ad _ rfl)) ?_;rintro v7 P ⟨p,S⟩;have H:=ax (hY.1 p);have f:∀o:Obj,w.heap.size<=(v.alloc o).heap.size:=λo=>bf r.size ad;have q:af3 w P:=(r.alloc r.size _).T (S.M (f _));clear p g c V W i h s;have s:=(Y.o.K q).k1;go_wp21;refine WE (L.o P q) ?_;rintro v8 O ⟨Q,g⟩;have G:=ax (hY.1 Q);have p:=ax (g8.K H.o g);have c:af3 w O:=q.T (g.M q.size);have j:ab0 X+ab0 a<=1099511627776:=aa;obtain⟨A7,c7,V,_,_,_⟩:=p.o.form;have⟨n7,R⟩:=ar (ab0 X);rw[R] at V;subst V;have n:v.heap.size+1<=O.heap.size:=by have B:=S.size;have h2:=g.size;rw[aI] at B;omega
  clear Q s R;go_wp2_with (at_builtin;refine oM uI rfl (.tmp 42) (.tmp 43) rfl p.o rfl _ a rfl (G.o.rd) j (by rw[aI];exact n) ?_;intro v9 w9 R z _;have E:=ax (hY.2 (R.more (f _)));have Q:af3 w w9:=c.grown z c.size (λk A=>bf (f _) (p.o.lt k A).1);clear R z)
  go_ret;exact⟨_,rfl,E.o,Q⟩
def Lp{a b c d:Int}{HW:List Int}(v:Value)(w:World)(h:jC .u8 w v (iZ a b c d 4++HW))(p:jE (iZ a b c d 4++HW))(u:ab0 (iZ a b c d 4++HW)<=1000000000000)(Q:0<=a)(P:a<18446744073709551616)(O:0<=b)(N:b<18446744073709551616)(M:0<=c)(L:c<18446744073709551616)(K:0<=d)(J:d<256):af4 af5 264 #[.string ⟨#[118,118,118,98]⟩,v] w λe S=>∃z,e=.returned (.tuple #[z,af6 (ab0 (iZ a b c d 4)),af6 0])/\g8 FJ w.heap.size S z [a,b,c,d]/\af3 w S:=by
 have Y:(iZ a b c d 4++HW).drop 0=il a++(il b++(il c++(d::HW))):=by simp only[iZ,aN,bj,bG,bB]
 have R:=r9 a b c d;have V:ab0 (iZ a b c d 1)=0+ab0 (il a):=by simp only[iZ];omega
 have U:ab0 (iZ a b c d 2)=ab0 (iZ a b c d 1)+ab0 (il b):=by simp only[iZ,aE]
 have T:ab0 (iZ a b c d 3)=ab0 (iZ a b c d 2)+ab0 (il c):=by simp only[iZ,aE]
 have H:ab0 (iZ a b c d 4)=ab0 (iZ a b c d 3)+1:=by simp only[iZ,aE,aK,aY]
 generalize iZ a b c d 4++HW=y at *;have f:∀{a k:Nat} {x r:List Int},ab0 x=k->y.drop a=x++r->y.drop (a+k)=r:=by
  intro a k x r z e;rw[<-cQ,e,fO z]
 have s:=f rfl Y;rw[<-V] at s;have q:=f rfl s;rw[<-U] at q;have X:=f rfl q;rw[<-T] at X;refine Jr ⟨#[118,118,118,98]⟩ y [a,b,c,d] (λj=>ab0 (iZ a b c d j)) v w h u Ee rfl ad rfl (λj _=>by have:=R j;show(iZ a b c d j).length<=_;omega) ?_;intro j I G g z t;have F:j<4:=I;obtain rfl|rfl|rfl|rfl:j=0\/j=1\/j=2\/j=3:=aa
 .show af4 af5 330 #[aq g,.int .u8 118] z (pd z g y (ab0 (iZ a b c d 1)) (.tuple #[.int .u64 a,af6 0]))
  rw[V];exact rU z t p u Y Q P
 .show af4 af5 330 #[aq g,.int .u8 118] z (pd z g y (ab0 (iZ a b c d 2)) (.tuple #[.int .u64 b,af6 0]))
  rw[U];exact rU z t p u s O N
 .show af4 af5 330 #[aq g,.int .u8 118] z (pd z g y (ab0 (iZ a b c d 3)) (.tuple #[.int .u64 c,af6 0]))
  rw[T];exact rU z t p u q M L
 .show af4 af5 330 #[aq g,.int .u8 98] z (pd z g y (ab0 (iZ a b c d 4)) (.tuple #[.int .u64 d,af6 0]))
  rw[H];exact Lg z t u X K J
def TI(ok:jn lo hi dg u m gr bk l):jE (hwB lo R dg l):=by
 unfold hwB uZ;refine jE.append (jE.append (jE.append (jE.append (jE.append (jE.append (jE.append (ri _ _) (ri _ _)) (ri _ _)) (ri _ _)) (ri _ _)) (ri _ _)) (ri _ _)) ?_;exact Te (λx z=>by have:=NK ok.pb x z;omega)
def TJ(ok:jn lo hi dg u m gr bk l):jE (hjB lo hi dg R gr l):=by
 have t:lo<=9223372036854775807:=by have:=ok.sh.h0;have:=ok.sh.h1;omega
 have v:=ok.sh.h1;have y:=ok.sh.d1;have x:=BX gr;unfold hjB;refine jE.append ?_ (TI ok);simp only[iZ];exact jE.append (jE.append (jE.append (jl aa  aa) (jl aa  aa)) (jl aa  aa)) (λb z=>by simp only[bQ] at z;omega)
def Ek{p1:Value}(v:Value)(w:World)(p:g7 w y 124 #[kd,p1,p2,p3,p4])(h:jC .u8 w v (hjB lo hi dg (iv u m hi bk) gr l))(ok:jn lo hi dg u m gr bk l):af4 af5 181 #[aq y,v] w λe f=>e=.returned (af6 0)/\∃x,g7 f y 124 #[kd,aq x,p2,p3,p4]/\mE x lo hi dg u m gr bk l (Gr (λ_=>False) w f) f/\Touch (λk=>k=y) w f:=by
 obtain⟨r,q⟩:=On ok;have hlo:lo<=9223372036854775807:=by have:=ok.sh.h0;have:=ok.sh.h1;omega
 have hhi:=ok.sh.h1;have hdg:=ok.sh.d1;have g:=mY l;have hll:=ok.len;have t:=TJ (R:=iv u m hi bk) ok;have d:=rT lo (iv u m hi bk) dg l;have HY:=ax p;have n:=ax (BX gr);have CL:Hid (∀(v:Value) (z:World),iQ iF z v l->_):=ax (λv z s=>Ju v z s ok);generalize iv u m hi bk=R at *;have CR:Hid (∀(v:Value) (z:World),jC .u8 z v (hwB lo R dg l)->_):=ax (λv z s=>Hm v z s r q);have CB:Hid (∀(x:Nat) (F:Ft) (z:World),mE x lo R dg u m false bk l F z->_):=ax (λx F z h=>Hb z h);have CP:Hid (∀(x:Nat) (F:Ft) (z:World),mE x lo R dg u m false bk l F z->_):=ax (λx F z h=>D' z h r);unfold hjB at h t;have z:=n.o;have Om:=r9 lo hi dg (Ei gr) 4;have s:ab0 (iZ lo hi dg (Ei gr) 4++hwB lo R dg l)=ab0 (iZ lo hi dg (Ei gr) 4)+ab0 (hwB lo R dg l):=aE;have CG:=ax (Lp v w h t aa  aa  aa  aa  aa  aa  aa  aa  aa);have XP:Hid ((iZ lo hi dg (Ei gr) 4++hwB lo R dg l).drop (ab0 (iZ lo hi dg (Ei gr) 4))=hwB lo R dg l):=ax dA;have W:=ax h;clear h ok r q t p z;generalize hwB (lo:Int) R dg l=HW at *;generalize iZ lo hi dg (Ei gr) 4++HW=bs at *;generalize ab0 (iZ lo hi dg (Ei gr) 4)=P at *;generalize Ei gr=D at *;obtain⟨A0,c0,ev,hc0,hcm,t⟩:=(W.o).form;obtain⟨g0,o0,rfl,hg0,_⟩:=t aa;have⟨X,z⟩:=ar (ab0 bs);have N:=ax z;rw[z] at ev hc0 s;subst ev;have i40:(P:Int)<=(X:Int):=aa;have i41:¬(c0=P):=aa;have Yj:P<=X:=aa;clear t z s d g;have EC:Hid (ad0 .i64 (lo:Int)=(lo:Int)/\ad0 .i64 (hi:Int)=(hi:Int)/\ad0 .i64 (dg:Int)=(dg:Int)):=ax ⟨ah,ah,ah⟩;have ly:=HY.o.lt;rcases n.o with⟨rfl,rfl⟩|⟨rfl,rfl⟩
 all_goals
  go_in;go_wp21;refine WE CG.o ?_;rintro v5 b ⟨z,C⟩;obtain⟨q,c5,rfl,hg5,a,r,ad4⟩:=z.pos ad;have s:b.cell? (af7 q 0)=some (.int .u64 lo):=z.cellAt (j:=0) (by simp) 0 ab;have p:b.cell? (af7 q 1)=some (.int .u64 hi):=z.cellAt (j:=1) (by simp) 0 ab;have g:b.cell? (af7 q 2)=some (.int .u64 dg):=z.cellAt (j:=2) (by simp) 0 ab;have U:=ax (aB s (aB p (aB g (show b.cell? (af7 q 3)=some (.int .u64 _) from z.cellAt (j:=3) (by simp) 0 ab))));have d:¬((9223372036854775807:Int)<(lo:Int)):=aa;have Y:¬((9223372036854775807:Int)<(hi:Int)):=aa;have Yg:Hid (jC .u8 b (.slice (some (af7 g0 (o0+P))) (X - P) (c0 - P)) HW):=by
   have h:=W.o.K C;rw[<-N.o] at h;have t:=jC.from_ h P (by rw[N.o];exact Yj);rw[XP.o,N.o] at t;exact ax t
  clear z r;go_wp21;refine WE (CR.o _ b Yg.o) ?_;rintro Q r ⟨z,c⟩;have Q6:=ax z;have Yk:af3 w r:=C.T (c.M C.size);have M:=ax Yk;clear s p g z d Y i40 i41;have d:af3 r r.drew:=(aC _ _).drew;have Y:q<r.heap.size:=aG a c.size;go_upto_region 7 with fail;refine jh (af3 r) (hQ 0 13 (ik 13 (ik 14 []))) (d) ?_;iterate 13 refine ib (h:=λf g=>by have q3':=(g.C (p:=af7 q 0) Y).T ((c.C (p:=af7 q 0) a).T U.o.1);have q4':=(g.C (p:=af7 q 1) Y).T ((c.C (p:=af7 q 1) a).T U.o.2.1);have q5':=(g.C (p:=af7 q 2) Y).T ((c.C (p:=af7 q 2) a).T U.o.2.2.1);obtain⟨e1,e2,e3⟩:=EC.o;exact af8) ?_
  refine iz λK s=>?_;go_simp;have O:af3 r (r.drew.alloc (.cells #[af6 0,af6 0,af6 0] 31)):=d.alloc ad _;refine s _ _ (O) ?_;refine iz λK s=>?_;go_simp;have J:af3 r (r.alloc (.cells #[af6 lo,af6 hi,af6 dg] 31)).drew:=((aC _ _).alloc (aD _) _).drew;refine s _ _ (J) ?_;refine g4 ?_;have⟨b5,T⟩:=ar (r.heap.size);have⟨t,S⟩:=ar ((r.alloc (.cells #[af6 lo,af6 hi,af6 dg] 31)).drew);have V:Hid (g7 t b5 31 #[af6 lo,af6 hi,af6 dg]):=by rw[<-S,<-T];exact ax (g7.new _ _ _)
  have z:af3 r t:=by rw[<-S];exact((aC _ _).alloc (aD _) _).drew
  have B:¬(b5=y):=by rw[<-T];have:=M.o.size;omega
  have ng5:¬(q=y):=aa;have HX4:=ax ((i_ Q lo R dg u m false bk l).K Q6.o z);have L:=ax (M.o.T (z.M M.o.size));have HY4:=ax (HY.o.K L.o);have l54:q<t.heap.size:=aG Y z.size;have Q3:=ax ((z.C (p:=af7 q 3) Y).T ((c.C (p:=af7 q 3) a).T U.o.2.2.2));rw[S,T];clear S T O J d z;have E:=V.o.lt;have z:=V.o.k0;have T:=V.o.k1;have S:=V.o.k2;have O:=ax (aB z (aB T S));have G:Touch (λk=>k=y) t t.drew:=(Touch.refl _ t).drew;have d:af3 t t.drew:=(aC _ _).drew;have HXd:=ax ((i_ Q lo R dg u m false bk l).K HX4.o d);have lY4:=HY4.o.lt;clear z T S;go_upto_region 8 with fail;have Z:=ax (λ(f:World) (g:(Touch (λk=>k=y) t) f)=>(aB ((g9 g 0 E B).T O.o.1) (aB ((g9 g 1 E B).T O.o.2.1) (aB ((g9 g 2 E B).T O.o.2.2) ((g9 g 3 l54 ng5).T Q3.o)))));refine jh (Touch (λk=>k=y) t) (hQ 0 7 (hQ 8 1 (ik 7 (ik 9 (ik 10 (hQ 11 5 (ik 16 (hQ 17 1 [])))))))) (G) ?_;iterate 8 refine ib ?_
  refine iz λK s=>?_;go_simp;refine Ix (CB.o Q _ t.drew HXd.o) ?_;refine s _ _ (G) ?_;refine iz λK s=>?_;go_simp;refine WE (CP.o Q _ t.drew HXd.o) ?_;rintro v9 S ⟨z,Q0⟩;have O9:=ax z;have g:af3 t S:=d.T Q0;have T9:Touch (λk=>k=y) t S:=Touch.of_below g (aD _);clear z;refine s _ _ (T9) ?_;refine iz λK s=>?_;go_simp;refine WE (CL.o v9 S O9.o.rd) ?_;rintro x z ⟨T,TG⟩;have HX:=ax T;have A:af3 t z:=g.T (TG.M g.size);have I:Touch (λk=>k=y) t z:=Touch.of_below A (aD _);clear T;refine s _ _ (I) ?_;iterate 5 refine ib ?_
  refine iz λK s=>?_;have J:=ax (HY4.o.K A);have T:=J.o.k1;have o:=J.o.F 1;go_simp;have H:Touch (λk=>k=y) t (z.setCell (af7 y 1) (aq x)):=I.setCell (p:=af7 y 1) (.inl rfl) _;clear T o;refine s _ _ (H) ?_;refine ib ?_;refine g4 ?_;have M2:=ax (J.o.hJ 1 (aq x));have Uw:=g.size;have hnF:∀k,Gr (λ_=>False) S z k->¬(k=y):=λk T=>by have:=T.elim False.elim id;omega
  have T11:Touch (λk=>k=y) z (z.setCell (af7 y 1) (aq x)):=(show Touch (λk=>k=y) z z from Touch.refl _ z).setCell (p:=af7 y 1) (.inl rfl) _;have o:=ax ((i_ x lo hi dg u m _ bk l).far HX.o T11 hnF);have TT:=ax ((Touch.of_below (F:=λk=>k=y) L.o (aD _)).T H (λi hi=>.inl hi));clear T11 H I T9 G hnF;generalize z.setCell (af7 y 1) (aq x)=G at *;go_wp2;go_ret;refine⟨rfl,x,M2.o,(i_ x lo hi dg u m _ bk l).more o.o (λk T=>?_) (jt (λk h=>h.elim) TT.o.size),TT.o⟩;have I:=(i_ x lo hi dg u m _ bk l).low o.o k T;have H:=T.elim False.elim id;exact .inr ⟨bf L.o.size (bf Uw H.1),I⟩
section
variable {y lo hi dg u m bk : Nat} {gr : Bool} {l : List Pr} {F : Ft}
def Lr(v n:Int)(w:World)(h:pw y lo hi dg u m gr bk l F w)(ok:jn lo hi dg u m gr bk l)(o:-9223372036854775808<=v)(W:v<=9223372036854775807)(B:0<=n)(j:n<18446744073709551616):af4 af5 160 #[aq y,af6 v,.int .u64 n] w (au w (af6 (hsE u m gr bk l v n))):=by
 have H:Hid (hsE u m gr bk l v n=if n=0 then 4 else if v<0 then 5 else if gr=false/\(oC u m bk:Int)<v then 5 else if 4611686018427387904<tot l+n then 6 else 0):=ax rfl;obtain⟨z,r,t,_⟩:=h;have L:Hid (∀x,_):=ax (λx=>Du u m bk x ok.sh.um ok.b0 ok.b1);have M:Hid (∀x,af3 w x->_):=ax (λx s=>mX z l x ((t.K s).rd) ok.pos (aa2 ok.sum) (aa2 ok.len));have s:=ax r;have D:=g_ ok.pos;have C:=ok.sum;obtain⟨A,c,rfl,_,_,_⟩:=t.form;clear r t ok;generalize oC u m bk=T at *;generalize tot l=t at *;have J:=ax (by rw[iy];omega:ad0 .u64 (4611686018427387904 - t)=4611686018427387904 - t);rw[H.o];by_cases I:n=0
 .subst I
  rw[aH rfl];go_in;go_wp2;go_ret;exact⟨rfl,aC _ _⟩
 rw[aF I];have E:(n == 0)=false:=ae;have r:af3 w w.drew:=(aC _ _).drew;by_cases d:v<0
 .rw[aH d]
  go_in;go_upto_region 3 with fail;refine jh (af3 w) (hQ 0 26 []) (r) ?_;iterate 3 refine ib ?_
  iterate 22 (refine YtdicblkhpcphfaaGreat.kJ ?_;try go_simp)
  refine ib ?_;refine g4 ?_;go_wp2;go_ret;exact⟨rfl,r⟩
 rw[aF d];obtain⟨V,x⟩:∃V:Int,(if 4611686018427387904<t+n then(6:Int) else 0)=V:=⟨_,rfl⟩;rw[x];have f:=ax x;clear x;have g:Hid (4611686018427387904<t+n<->4611686018427387904 - t<n):=ax aa;cases gr
 .by_cases U:(T:Int)<v
  .rw[aH ⟨rfl,U⟩]
   clear g f;go_in;go_upto_region 3 with fail;refine jh (af3 w) (hQ 0 22 (ik 22 (hQ 23 3 []))) (r) ?_;iterate 22 refine ib (h:=λX x=>by have R:=d;have P:=U;have b:=(s.o.K x).k3;have a:=(s.o.K x).k4;have p:=(s.o.K x).k5;have Y:=(s.o.K x).k6;exact af8) ?_
   refine iz λK S=>?_;go_simp;refine Ix (L.o w.drew) ?_;refine S _ _ (r) ?_;iterate 3 refine ib (h:=λX x=>by have R:=d;have P:=U;have b:=(s.o.K x).k3;have a:=(s.o.K x).k4;have p:=(s.o.K x).k5;have Y:=(s.o.K x).k6;exact af8) ?_
   refine g4 ?_;go_wp2;go_ret;exact⟨rfl,r⟩
  .rw[aF (λh=>U h.2)]
   go_in;go_upto_region 3 with fail;refine jh (af3 w) (hQ 0 22 (ik 22 (hQ 23 3 []))) (r) ?_;iterate 22 refine ib (h:=λX x=>by have R:=d;have P:=U;have b:=(s.o.K x).k3;have a:=(s.o.K x).k4;have p:=(s.o.K x).k5;have Y:=(s.o.K x).k6;exact af8) ?_
   refine iz λK S=>?_;go_simp;refine Ix (L.o w.drew) ?_;refine S _ _ (r) ?_;iterate 3 refine ib (h:=λX x=>by have R:=d;have P:=U;have b:=(s.o.K x).k3;have a:=(s.o.K x).k4;have p:=(s.o.K x).k5;have Y:=(s.o.K x).k6;exact af8) ?_
   refine g4 ?_;have O:=(s.o.K r).k7;go_wp21;refine Ix (M.o w.drew r) ?_;have G:=J.o;by_cases q:4611686018427387904<t+n
   .have Q:4611686018427387904 - t<n:=g.o.1 q
    obtain rfl:V=6:=by rw[<-f.o,aH q]
    clear g f q;go_wp2;go_ret;exact⟨rfl,r⟩
   .have Q:¬4611686018427387904 - t<n:=λh=>q (g.o.2 h)
    obtain rfl:V=0:=by rw[<-f.o,aF q]
    clear g f q;go_wp2;go_ret;exact⟨rfl,r⟩
 .rw[aF (λh=>by cases h.1)]
  go_in;go_upto_region 3 with fail;refine jh (af3 w) (hQ 0 26 []) (r) ?_;iterate 9 refine ib (h:=λX x=>by have R:=d;have p:=(s.o.K x).k5;exact af8) ?_
  iterate 15 (refine YtdicblkhpcphfaaGreat.kJ ?_;try go_simp)
  iterate 2 refine ib (h:=λX x=>by have R:=d;have p:=(s.o.K x).k5;exact af8) ?_
  refine g4 ?_;have O:=(s.o.K r).k7;go_wp21;refine Ix (M.o w.drew r) ?_;have G:=J.o;by_cases q:4611686018427387904<t+n
  .have Q:4611686018427387904 - t<n:=g.o.1 q
   obtain rfl:V=6:=by rw[<-f.o,aH q]
   clear g f q;go_wp2;go_ret;exact⟨rfl,r⟩
  .have Q:¬4611686018427387904 - t<n:=λh=>q (g.o.2 h)
   obtain rfl:V=0:=by rw[<-f.o,aF q]
   clear g f q;go_wp2;go_ret;exact⟨rfl,r⟩
def Ls(v:Nat)(n:Int)(w:World)(h:pw y lo hi dg u m gr bk l F w)(ok:jn lo hi dg u m gr bk l)(S:v<9223372036854775808)(W:0<n)(o:tot l+n<=4611686018427387904):af4 af5 161 #[aq y,af6 v,.int .u64 n] w λe g=>e=.returned (.tuple #[])/\pw y lo hi dg u m gr (max bk (1+jg u m v)) (iu (oJ u m v) n l) (Gr F w g) g/\Touch F w g:=by
 obtain⟨z,s,t,q,p,r⟩:=h;have L:Hid (∀x,_):=ax (λx=>GD u m v x ok.sh.um ok.sh.mb.1 ok.sh.mb.2 S);have M:Hid (∀x,_):=ax (λx=>oN u m v x ok.sh.um S);have J:Hid (∀x,af3 w x->_):=ax (λx f=>qe z (oJ u m v) n l x ((t.K f).rd) ok.pos aa  aa (aa2 ok.len));have x:=lU (u:=u) (m:=m) S;have f:=ok.sh.um;have j:jg u m v<=63:=aa;have X:=ax (aB s (aB t (aB q (aB p r))));obtain⟨A,c,rfl,_,_,_⟩:=t.form;clear s t q p r ok x f;generalize oJ u m v=I at *;generalize jg u m v=B at *;have P:Hid (ad0 .i64 (1+(B:Int))=1+(B:Int)):=ax ah;have H:Hid (max (bk:Int) (1+(B:Int))=((max bk (1+B):Nat):Int)):=ax aa;have Y:af3 w w.drew:=(aC _ _).drew;go_in;go_wp21;refine kr (af3 w) 17 (hQ 0 14 (hQ 15 1 (ik 14 (ik 16 [])))) (Y) ?_;iterate 15 refine jG (h:=λg t=>by have f:=(X.o.1.K t).C 3;have d:=(X.o.1.K t).k4;have b:=(X.o.1.K t).k7;simp only[az,ay,aA] at f;exact af8) ?_
 refine pq λK r=>?_;go_simp;refine Ix (L.o w.drew) ?_;refine r _ _ (Y) ?_;refine pq λK r=>?_;go_simp;refine WE (J.o w.drew Y) ?_;rintro i R ⟨x,D⟩;have U:=ax x;have q:af3 w R:=Y.T D;clear x;refine r _ _ (q) ?_;refine hN ?_;simp only[aX,bj];have b:=(X.o.1.K q).k7;have Q:=(X.o.1.K q).F 7;obtain⟨V,T,rfl,_,_,_⟩:=U.o.form;go_wp21;refine g6 ?_;have⟨s,a⟩:=ar (R.setCell (af7 y 7) (.slice V (ab0 (iu (I:Int) n l)) T));have x:Hid (g7 s y 128 #[af6 lo,af6 hi,af6 dg,af6 u,af6 m,.bool gr,af6 bk,.slice V (ab0 (iu (I:Int) n l)) T]/\g8 iF w.heap.size s (.slice V (ab0 (iu (I:Int) n l)) T) (iu (I:Int) n l)/\Touch F w s):=ax (by
  rw[<-a];exact⟨(X.o.1.K q).hJ 7 _,U.o.far (own_ne (X.o.1.K q) U.o ab) _,(Touch.of_below q (aD _)).setCell (p:=af7 y 7) (.inl X.o.2.2.1) _⟩)
 rw[a];clear a b Q;have a:af3 s s.drew:=(aC _ _).drew;go_upto_region 1 with fail;refine kr (af3 s) 17 (hQ 0 14 (ik 14 (hQ 15 2 []))) (a) ?_;iterate 14 refine jG (h:=λg t=>by have f:=(x.o.1.K t).C 3;have d:=(x.o.1.K t).k4;have b:=(x.o.1.K t).k6;simp only[az,ay,aA] at f;have E:=P.o;exact af8) ?_
 refine pq λK r=>?_;go_simp;refine Ix (M.o s.drew) ?_;refine r _ _ (a) ?_;iterate 2 refine jG (h:=λg t=>by have f:=(x.o.1.K t).C 3;have d:=(x.o.1.K t).k4;have b:=(x.o.1.K t).k6;simp only[az,ay,aA] at f;have E:=P.o;exact af8) ?_
 refine hN ?_;simp only[aX,bj];have b:=(x.o.1.K a).k6;have C:=(x.o.1.K a).F 6;go_wp21;refine g6 ?_;go_wp21;refine ct (v:=.tuple #[]) (by simp[results,Tryz.results161,go_sem, *];try rfl) rfl ?_;rw[H.o];obtain⟨Q,t,G⟩:=x.o;have N:Touch F w ((s.setCell (af7 y 6) (af6 ((max bk (1+B):Nat):Int))).drew):=(G.setCell (p:=af7 y 6) (.inl X.o.2.2.1) _).drew;have O:=t.far (p:=af7 y 6) (own_ne Q t ab) (af6 ((max bk (1+B):Nat):Int));refine⟨rfl,⟨_,Q.hJ 6 _,O.more (bl _),.inl X.o.2.2.1,λk e=>.inr ⟨(t.lt k e).1,?_⟩,jt X.o.2.2.2.2 N.size⟩,N⟩;have:=(O.lt k e).2;exact this
def Hn(v n:Int)(w:World)(h:pw y lo hi dg u m gr bk l F w)(ok:jn lo hi dg u m gr bk l)(T:-9223372036854775808<=v)(S:v<=9223372036854775807)(V:0<=n)(U:n<18446744073709551616):af4 af5 91 #[aq y,af6 v,.int .u64 n] w (wM (pw y lo hi dg u m gr (hsB u m gr bk l v n) (hsL u m gr bk l v n)) F (hsE u m gr bk l v n) w):=by
 have c:=ax h;have r:=ax (Lr v n w h ok T S V U);have p:Hid (hsL u m gr bk l v n=if hsE u m gr bk l v n=0 then iu (oJ u m v.toNat) n l else l):=ax rfl;have q:Hid (hsB u m gr bk l v n=if hsE u m gr bk l v n=0 then max bk (1+jg u m v.toNat) else bk):=ax rfl;rw[p.o,q.o];by_cases x:hsE u m gr bk l v n=0
 .have t:0<n/\0<=v/\tot l+n<=4611686018427387904:=by
   unfold hsE at x
   (repeat' split at x)<;>omega
  obtain⟨z,rfl⟩:=bO t.2.1;have d:Hid (∀s,af3 w s->_):=ax (λs g=>Ls (y:=y) z n s ((nZ y lo hi dg u m gr bk l).K h g) ok aa t.1 t.2.2);rw[aH x,aH x];rw[x] at r |-;simp only[bY];have X:=(nZ y lo hi dg u m gr bk l).low h;clear p q x t h ok
  go_in;go_wp21;refine RX r.o ?_;intro s t;go_wp21;refine RX (d.o s t) ?_;rintro R ⟨Y,f⟩;go_wp2;go_ret;refine⟨rfl,?_,BF t f⟩;refine(nZ y lo hi dg u m gr _ _).more Y (λk g=>?_) (jt X (BF t f).size);rcases g with g|⟨a,b⟩
  .exact .inl g
  .exact .inr ⟨bf t.size a,b⟩
 .rw[aF x,aF x]
  have g:(hsE u m gr bk l v n == 0)=false:=by simpa using x
  clear p q h ok;generalize hsE u m gr bk l v n=z at *;go_in;go_wp21;refine RX r.o ?_;intro s t;go_wp2;go_ret;exact lh (nZ y lo hi dg u m gr bk l) c.o rfl t
end
section
variable {y y2 lo hi dg u m bk bt : Nat} {gr : Bool} {l t : List Pr} {F Fy : Ft}
def Lt(w:World)(h:pw y lo hi dg u m gr bk l F w)(hy:pw y2 lo hi dg u m gr bt t Fy w)(ok:jn lo hi dg u m gr bk l)(v:jn lo hi dg u m gr bt t):af4 af5 49 #[aq y,aq y2] w (wM (pw y lo hi dg u m gr (QH l t bk bt) (NH l t)) F (Ct l t) w):=by
 have HH:=ax h;have a:Hid (Ct l t=if 4611686018427387904<tot l+tot t then 6 else 0):=ax rfl;have g:Hid (NH l t=if Ct l t=0 then iC l t else l):=ax rfl;have p:Hid (QH l t bk bt=if Ct l t=0 then max bk bt else bk):=ax rfl;obtain⟨z,T,d,O,P,Q⟩:=h;obtain⟨z2,U,s,_⟩:=hy;have t0:=g_ ok.pos;have t1:=g_ v.pos;have l0:=ok.len;have l1:=v.len;have s0:=ok.sum;have s1:=v.sum;have M:Hid (∀r,af3 w r->_):=ax (λr S=>mX z l r ((d.K S).rd) ok.pos aa  aa);have N:Hid (∀r,af3 w r->_):=ax (λr S=>mX z2 t r ((s.K S).rd) v.pos aa  aa);have I:=ax (aB ok v);have X:=ax (aB T (aB d (aB O (aB P Q))));have Y:=ax (aB U s);have hyl:=U.lt;obtain⟨A,c,rfl,_,_,_⟩:=d.form;obtain⟨A2,c2,rfl,_,_,V⟩:=s.form;have HF2:=ax V;have hne2:=own_ne T s ab;have⟨J,b⟩:=ar (Ct l t);rw[b] at a g p |-;have⟨B,f⟩:=ar (NH l t);have⟨C,q⟩:=ar (QH l t bk bt);rw[f] at g |-;rw[q] at p |-;clear b f q V;have R:=ax (by rw[iy];omega:ad0 .u64 (4611686018427387904 - tot l)=4611686018427387904 - tot l)
 have q:Hid (4611686018427387904<tot l+tot t<->4611686018427387904 - tot l<tot t):=ax aa;clear T d O P Q ok v U s;have Bd:af3 w w.drew:=(aC _ _).drew;have f:af3 w w.drew.drew:=Bd.drew;go_in;go_upto_region 1 with fail;refine jh (af3 w) (hQ 0 20 []) (Bd) ?_;iterate 20 refine ib (h:=λL x=>by have k0:=(X.o.1.K x).C 0;have k1:=(X.o.1.K x).k1;have k2:=(X.o.1.K x).k2;have k5:=(X.o.1.K x).k5;have j0:=(Y.o.1.K x).k0;have j1:=(Y.o.1.K x).k1;have j2:=(Y.o.1.K x).k2;have j5:=(Y.o.1.K x).k5;simp only[az,ay,aA] at k0;exact af8) ?_
 refine g4 ?_;go_upto_region 3 with fail;have v:(4611686018427387904 - tot l<tot t)\/¬(4611686018427387904 - tot l<tot t):=Classical.em _;refine jh (af3 w) (hQ 0 4 (hQ 5 4 (ik 4 (ik 9 (hQ 10 2 []))))) (f) ?_;iterate 8 refine ib (h:=λL x=>by have ew:=R.o;have V:=(X.o.1.K x).k7;have G:=(Y.o.1.K x).k7;exact af8) ?_
 refine iz λK b=>?_;go_simp;refine Ix (N.o w.drew.drew f) ?_;refine b _ _ (f) ?_;refine iz λK b=>?_;go_simp;refine Ix (M.o w.drew.drew f) ?_;refine b _ _ (f) ?_;iterate 2 refine ib (h:=λL x=>by have ew:=R.o;have V:=(X.o.1.K x).k7;have G:=(Y.o.1.K x).k7;exact af8) ?_
 refine g4 ?_;by_cases hc:4611686018427387904 - tot l<tot t
 .obtain rfl:J=6:=by rw[a.o,aH (q.o.2 hc)]
  obtain rfl:B=l:=by rw[g.o];rfl
  obtain rfl:C=bk:=by rw[p.o];rfl
  clear q a g p;go_wp2;go_ret;exact lh (nZ y lo hi dg u m gr C B) HH.o rfl f
 obtain rfl:J=0:=by rw[a.o,aF (λh=>hc (q.o.1 h))]
 have Jj:Hid (tot l+tot t<=4611686018427387904):=ax (aa2 q.o);obtain rfl:B=iC l t:=by rw[g.o];rfl
 obtain rfl:C=max bk bt:=by rw[p.o];rfl
 clear q a g p R M N v;have y7:=(Y.o.1.K f).k7;go_wp2;go_loopg [6] (ab0 t) (λq s wr=>∃(j:Nat) (v:Value),q=ab0 t - j/\j<=ab0 t/\s=af6 j/\Hid (g7 wr y 128 #[af6 lo,af6 hi,af6 dg,af6 u,af6 m,.bool gr,af6 bk,v]/\g8 iF 0 wr v (iC l (t.take j))/\(∀k,v.ownBlock=some k->F k\/w.heap.size<=k))/\Hid (Touch (λk=>k=y) w wr))
 exact⟨0,_,rfl,aa,rfl,ax ⟨X.o.1.K f,by rw[dm,qa];exact X.o.2.1.K f,λk e=>.inl (X.o.2.2.2.1 k e)⟩,ax (Touch.of_below f (aD _))⟩
 case round=>
  obtain⟨j,v,s,hj,rfl,g,d⟩:=hrel;have HQ:=ax s;clear s;by_cases O:j<ab0 t
  .obtain⟨Q,R,rfl,i,q,s⟩:=j' HF2.o O
   have W:Q≠y:=λe=>hne2 (by rw[e];rfl);have q:=(g9 d.o (R+j * 2) i W).T q;have s:=(g9 d.o (R+j * 2+1) i W).T s;have o:Q<wr.heap.size:=by have:=d.o.size;omega
   have N:=ax (aB q s);clear q s;have hji:(j:Int)<(ab0 t:Int):=aa;have hmem:t[j]∈t:=aP O;have⟨z,P⟩:=ar (t[j].1);have⟨n,U⟩:=ar (t[j].2);rw[P,U] at N;have hn0:0<n:=by rw[<-U];exact I.o.2.pos _ hmem
   have a:i' (iC l (t.take j)):=lS I.o.1.pos (λp s=>I.o.2.pos p (cm s));have q:ab0 (iC l (t.take j))<=1000000000:=by
    have E:=xo (t.take j) l;have T:=eS j t;omega
   have s:=ja O;rw[U] at s;have D:=km I.o.2.pos (j+1);have M:tot (iC l (t.take j))+n<=4611686018427387904:=by rw[lR];omega
   have Jt:=ax (by rw[aM O,ym,P,U]:iC l (t.take (j+1))=iu z n (iC l (t.take j)));have CP:Hid (∀r,af3 wr r->_):=ax (λr S=>qe v z n (iC l (t.take j)) r ((g.o.2.1.K S).rd) a aa  aa q);obtain⟨A5,c5,rfl,_,_,_⟩:=g.o.2.1.form;clear s D a q M;have r:af3 wr wr.drew:=(aC _ _).drew;generalize iC l (t.take j)=M at *;go_upto_region 9 with fail;refine kr (af3 wr) 16 (hQ 0 15 (ik 15 [])) (r) ?_;iterate 15 refine jG (h:=λL x=>by have V:=(g.o.1.K x).C 7;have p0:=(x.C (p:=af7 Q (R+j * 2)) o).T N.o.1;have p1:=(x.C (p:=af7 Q (R+j * 2+1)) o).T N.o.2;simp only[az,ay,aA] at V;exact af8) ?_
   refine pq λK b=>?_;go_simp;refine WE (CP.o wr.drew r) ?_;rintro v3 H ⟨q,S⟩;have a:=ax q;have s:af3 wr H:=r.T S;clear q;refine b _ _ (s) ?_;refine hN ?_;simp only[aX,bj];have V:=(g.o.1.K s).k7;have f7:=(g.o.1.K s).F 7;obtain⟨A3,D,rfl,_,_,_⟩:=a.o.form;go_wp21;refine g6 ?_;go_wp2;go_roundg (ab0 t - (j+1))
   case measure=>have:=HQ.o;omega
   case rel=>
    refine⟨j+1,_,rfl,aa,af,ax ⟨(g.o.1.K s).hJ 7 _,?_,λk e=>.inr ?_⟩,ax (((d.o.T (Touch.of_below (F:=λk=>k=y) s (aD _)) (λ_ h=>.inl h)).setCell (p:=af7 y 7) (.inl rfl) _))⟩
    .rw[Jt.o];exact(a.o.far (own_ne (g.o.1.K s) a.o ab) _).more (bl _)
    .have:=(a.o.lt k e).1;have:=d.o.size;have q:wr.drew.heap.size=wr.heap.size:=rfl;omega
  .obtain rfl:j=ab0 t:=aa
   have s:=g;rw[bc (aD _)] at s;clear g;have r:af3 wr wr.drew:=(aC _ _).drew;have q:y2=y->bt=bk:=λe=>by
    have E:=X.o.1.C 6;have T:=Y.o.1.C 6;rw[e] at T;rw[E] at T;simp at T;omega
   have T:Hid (wr.cell? (af7 y2 6)=some (af6 bt)):=ax (by
    by_cases e:y2=y
    .rw[q e,e]
     have k:=s.o.1.C 6;simpa only[az,ay,aA] using k
    .have k:=Y.o.1.k6
     exact(g9 d.o 6 hyl e).T k)
   clear q;have U:y2<wr.heap.size:=by have:=d.o.size;omega
   go_upto_region 10 with fail;refine kr (af3 wr) 12 (hQ 0 12 []) (r) ?_;iterate 12 refine jG (h:=λL x=>by have q:=(s.o.1.K x).C 6;have R:=(x.C (p:=af7 y2 6) U).T T.o;simp only[az,ay,aA] at q;exact af8) ?_
   refine hN ?_;simp only[aX,bj];have q:=(s.o.1.K r).k6;have S:=(s.o.1.K r).F 6;go_wp21;refine g6 ?_;go_wp2;go_ret;rw[show max (bk:Int) (bt:Int)=((max bk bt:Nat):Int) by omega];have a:Touch F w ((wr.setCell (af7 y 6) (af6 ((max bk bt:Nat):Int))).drew):=((d.o.T (Touch.refl _ _) (λ_ h=>.inl h):Touch (λk=>k=y) w wr).setCell (p:=af7 y 6) (.inl rfl) _ |>.drew).M (λk h=>by cases h;exact X.o.2.2.1);have x:=s.o.2.1.far (p:=af7 y 6) (own_ne s.o.1 s.o.2.1 ab) (af6 ((max bk bt:Nat):Int));refine⟨rfl,⟨_,s.o.1.hJ 6 _,x,.inl X.o.2.2.1,λk e=>(s.o.2.2 k e).imp id (λh=>⟨h,?_⟩),jt X.o.2.2.2.2 a.size⟩,a⟩;exact(x.lt k e).2
end
