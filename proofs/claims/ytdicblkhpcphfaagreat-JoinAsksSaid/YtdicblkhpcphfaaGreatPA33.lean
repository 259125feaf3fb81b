/- Parts. No condition. -/
import Derived.Test.YtdicblkhpcphfaaGreatPA32
set_option maxRecDepth 100000
set_option maxHeartbeats 0
set_option linter.all false
namespace Go.Proofs.YtdicblkhpcphfaaGreat
open Tryz Go.RowKit Go.Lib Go.Shelf
open _root_.List renaming length→ao
open _root_.Go renaming Calls→ar
open Tryz renaming prog→Oe
namespace D
variable{x:Nat}{sp:i9}{c:Js}
def BU(b:List Int):ao (nU b)=ao b+4:=by unfold nU;rw[aE,qe]
def N2{b:List Int}{j:Nat}(h:j<4)(y:ao b+j<ao (nU b)):(nU b)[ao b+j]=Iy b / 2 ^ (8 * j) % 256:=by
 have z:(nU b)[ao b+j]?=some (Iy b / 2 ^ (8 * j) % 256):=by
  unfold nU;rw[cU aa,Nat.add_sub_cancel_left]
  exact LC _ h
 rw[aQ y] at z;exact bC z
def LJ(g:Nat)(v:Value)(b:List Int)(w:World)(h:Ci 256 w g)(r:jf .u8 w v (nU b))(N:ao b<=1000000000) :
 ar Oe 294 #[.pointer (some ⟨g,0,none⟩),v] w λe V=>e=.returned (.bool true)/\w=V:=by
 have d:=BU b;obtain⟨A,c,rfl,T,P,u⟩:=r.form;obtain⟨U,S,rfl,O,t⟩:=u.at_ (j:=ao b+0) (by omega)
 obtain⟨_,_,a,_,z⟩:=u.at_ (j:=ao b+1) (by omega)
 obtain⟨_,_,Y,_,y⟩:=u.at_ (j:=ao b+2) (by omega)
 obtain⟨_,_,X,_,x⟩:=u.at_ (j:=ao b+3) (by omega)
 simp only[aW,bY,and_true] at a Y X;obtain⟨rfl,rfl⟩:=a;obtain⟨rfl,rfl⟩:=Y;obtain⟨rfl,rfl⟩:=X;rw[N2 aa] at t z y x
 have p:jf .u8 w (.slice (some ⟨U,S,none⟩) (ao b) (ao b)) b:=by
  obtain⟨R,Q,e,_,_,f⟩:=(oN.1 r).form;injection e with z y x;subst z;have s:=iA.jj (c:=ao b) (by rw[aU];omega) aa (f.take (ao b))
  have q:(nU b).take (ao b)=b:=by unfold nU;exact gn ..
  rw[q] at s;exact oN.2 s
 have q:=ay (BN g _ b w h p aa)
 obtain⟨s,f⟩:=au (Iy b);rw[f] at t z y x q;rw[d] at T |-;clear r p h u f d;simp only[Nat.mul_zero,c_,Int.pow_zero,Int.ediv_one,bP] at t z y x;have u:s / 2 ^ 8 % 256=s / 256 % 256:=rfl;have r:s / 2 ^ (8 * 2) % 256=s / 65536 % 256:=rfl;have p:s / 2 ^ (8 * 3) % 256=s / 16777216 % 256:=rfl;rw[u] at z;rw[r] at y;rw[p] at x;have D:IntKind.u8.wrap s=s % 256:=rfl;have C:IntKind.u8.wrap (s / 256)=s / 256 % 256:=rfl;have B:IntKind.u8.wrap (s / 65536)=s / 65536 % 256:=rfl;have l:IntKind.u8.wrap (s / 16777216)=s / 16777216 % 256:=rfl;have f:IntKind.i64.wrap ((ao b:Int)+4 - 4)=ao b:=ai
 have d:IntKind.i64.wrap ((ao b:Int)+1)=ao b+1:=ai
 have R:IntKind.i64.wrap ((ao b:Int)+2)=ao b+2:=ai
 have Q:IntKind.i64.wrap ((ao b:Int)+3)=ao b+3:=ai
 clear u r p
 go_in
 go_upto_region 4 with fail;have u:(0:Int)<=(ao b:Int):=aa
 have r:(ao b:Int)<=(c:Int):=aa
 go_wp2_with fail;refine(q.o).mono ?_
 rintro e V ⟨rfl,rfl⟩;have p:(ao b:Int)<(ao b:Int)+4:=aa
 have M:(ao b:Int)+1<(ao b:Int)+4:=aa
 have L:(ao b:Int)+2<(ao b:Int)+4:=aa
 have K:(ao b:Int)+3<(ao b:Int)+4:=aa
 have J:(0:Int)<=(ao b:Int)+1:=aa
 have I:(0:Int)<=(ao b:Int)+2:=aa
 have H:(0:Int)<=(ao b:Int)+3:=aa
 have G:((ao b:Int)+1).toNat=ao b+1:=aa
 have F:((ao b:Int)+2).toNat=ao b+2:=aa
 have E:((ao b:Int)+3).toNat=ao b+3:=aa
 go_wp2
 go_ret;exact⟨rfl,rfl⟩
def IJ{r:Nat}{k:Int}{v:Value}{t:List Int}(w:World)(z:kX w x r 2 k false v)(f:jf .u8 w v t)(S:1<=k)(R:k<=4)(T:ao t<=1048576) :
 ar Oe 299 #[.pointer (some ⟨x,0,none⟩)] w λe y=>∃u,e=.returned (.tuple #[u,.int .i64 0])/\gO bE w.heap.size y u (lA k t)/\aq w y:=by
 have s:aq w w.drew:=(aC _ _).drew;have X:=ay (BT k v t w.drew (f.keep s) S R T);have d:=gN.lt z;have V:=gN.cell z 1;have q:=gN.cell z 2;have p:=gN.cell z 3;have g:=gN.cell z 4;simp only[aA,aB,az] at V q p g;obtain⟨A,c,rfl,_,_,_⟩:=f.form;have b:=ay q;have a:=ay p;have Y:=ay g;clear z f q p g
 go_in
 go_upto_region 3 with fail;have Z:=ay (λ(y:World) (z:(aq w) y)=>(aF ((z.cell (p:=⟨x,2,none⟩) d).trans b.o) (aF ((z.cell (p:=⟨x,3,none⟩) d).trans a.o) ((z.cell (p:=⟨x,4,none⟩) d).trans Y.o))))
 refine i' (aq w) (gW 0 12 (ib 12 (gW 13 4 []))) (s) ?_
 iterate 12 refine hC ?_
 refine iy λK z=>?_
 go_simp;refine(X.o).mono ?_
 rintro e Q ⟨u,rfl,g,U⟩;have f:=ay g;have q:aq w Q:=s.trans U;clear g;refine z _ _ (q) ?_
 clear z K
 iterate 4 refine hC ?_
 refine gM ?_
 go_wp2
 go_ret2
 exact⟨_,rfl,f.o,q⟩
def zd(y x:Nat)(w:World) :
 CallsD prog 291 #[.pointer (some ⟨y,0,none⟩),.pointer (some ⟨x,0,none⟩)] .returning w λe u t=>e=.returned (.tuple #[])/\u=.returning/\t=w:=by
 refine callsD_of_wpS func291 rfl λz v v=>?_
 apply wpS_seq
 apply wpS_region
 simp[wpOpsS,go_sem,recoverD,v,ntmps291,Exit.thenS]
 refine wpS_of_wp ?_
 go_wp2
 cases z
 simp_all[bodyPostS,results,Tryz.results291]
def D6(z y:Nat)(w:World)(R:Ending->World->Prop)(x:Array Value)(r:x[4]?=some (.pointer (some ⟨z,0,none⟩)))(q:x[5]?=some (.pointer (some ⟨y,0,none⟩)))
 (v:Value) (u:w.cell? ⟨z,0,none⟩=some v) (t:w.cell? ⟨y,0,none⟩=some (.int .i64 0)) (s:R (.returned (.tuple #[v,.int .i64 0])) w) :
 Leaves prog Tryz.f215 x R [{target:=.fn (.func 291) #[.pointer (some ⟨z,0,none⟩),.pointer (some ⟨y,0,none⟩)],args:=#[]}] .returning w:=by
 refine leaves_cons (f:=291) (args:=#[.pointer (some ⟨z,0,none⟩),.pointer (some ⟨y,0,none⟩)]) ad (by simp[go_sem]) ?_
 refine(zd z y w).mono ?_
 rintro e p g ⟨rfl,rfl,rfl⟩;refine⟨.tuple #[v,.int .i64 0],?_,s⟩
 simp[results,Tryz.results215,go_sem,r,q,u,t]
def hM.apart{w:World}{g a:Nat}{bs:List Int}{p:Addr}{T:TypeId}{cs:Array Value}(h:hM w g bs a)(r:g≠p.block)(t:gN w p.block T cs)(s:T≠5)(u:Value):hM (w.setCell p u) g bs a:=by
 obtain⟨v,y,z,x⟩:=h;exact⟨v,y.far r _,OwnB.far z (λe=>(gN.t_ t z s) e) _,x⟩
def IK(k O:Int)(v:Value)(t:List Int)(w:World)(y:jf .u8 w v (lA k t))(s:oc (lA k t))(hk0:1<=k)(hk1:k<=4)(ht0:0<ao t)(ht1:ao t<=1000000)(hl0:(ao t:Int)<=O)(hl1:O<=1048576) :
 ar Oe 215 #[v,.int .i64 O] w λe d=>∃x r u,e=.returned (.tuple #[.pointer (some ⟨x,0,none⟩),.int .i64 0])/\kX d x r 2 k false u/\gO bE w.heap.size d u t/\aq w d:=by
 have z:=FO k t;have hlb:=gS (ao t:Int);have HV:=ay y;have PO:=ay s;have P:=ay z;obtain⟨A,c,rfl,_,_,_⟩:=y.form;clear y s z
 go_enter_defers func215,ntmps215
 go_upto_region 2 with fail;obtain⟨Q,s⟩:∃Q,Q=(w.alloc (.cells #[.pointer none] 289)).alloc (.cells #[.int .i64 0] 43):=⟨_,rfl⟩;have b:aq w Q:=by rw[s];exact((aC _ _).alloc (aD _) _).alloc ad _
 have f:Hid (gN Q w.heap.size 289 #[.pointer none]):=by show gN _ _ _ _;rw[s];exact(gN.new _ _ _).alloc _
 have p:Hid (gN Q (w.heap.size+1) 43 #[.int .i64 0]):=by
  show gN _ _ _ _;rw[s];have h:=gN.new (w.alloc (.cells #[.pointer none] 289)) 43 #[.int .i64 0]
  rwa [aI] at h
 obtain⟨y,z⟩:=au (w.heap.size);have YH:=ay z;rw[<-s];rw[z] at f p |-;clear s z;have hlim:(0:Int)<=O:=aa
 go_wp2_with fail;refine(BO Q).mono ?_
 rintro e w2 ⟨g,rfl,s,_,z⟩;have K:=ay (b.trans (z.mono b.size));have CF:=ay (LJ g _ (vO k t) w2 s (HV.o.keep K.o) (by have:=BU (vO k t);have:ao (lA k t)=_:=this;have:=P.o;omega))
 have a:=ay (f.o.keep z);have q:=ay (p.o.keep z);clear s b z f p
 go_wp2_with fail;refine(CF.o).mono ?_
 rintro e d ⟨rfl,rfl⟩
 go_wp2_with fail;refine(lB _).mono ?_
 rintro e d ⟨rfl,rfl⟩;have hmin:min O 1048576=O:=aa
 have p:=ay (zS _ _ w2 (HV.o.keep K.o) (by have:=P.o;omega))
 go_wp2_with fail;refine(p.o).mono ?_
 rintro e B ⟨r,rfl,hr2,s,z⟩;have Hb3:=ay (K.o.trans (z.mono K.o.size));have d3:=q.o.lt;have X:=ay (a.o.keep z);have Y:=ay (q.o.keep z);have U:=ay s;have lr:=s.lt;have l2:=X.o.lt;have l3:=Y.o.lt;have lz:=Hb3.o.size;have lz2:=K.o.size;have hh:=YH.o;clear s z a q p;obtain⟨x,hx⟩:=au (B.heap.size);obtain⟨C,p⟩:=au (B.alloc (.cells #[.pointer (some ⟨r,0,none⟩),.int .i64 0,.int .u8 0,.bool false,.slice none 0 0] 294));have z:aq B C:=by rw[<-p];exact bw
 have I4:C.heap.size=x+1:=by rw[<-p,<-hx,aI]
 have V:kX C x r 0 0 false (.slice none 0 0):=by rw[<-p,<-hx];exact gN.new _ _ _
 have s:=X.o.keep z;have N:=ay (Y.o.keep z);have R:=ay (U.o.keep z);have M:=s.frozen 0;have b:=s.k0;have S:=ay (Hb3.o.trans (z.mono Hb3.o.size));have a:=ay hx;have T:=ay V;have f:=ay s;clear z V s X Y U
 go_upto_region 5 with fail;obtain⟨U,z⟩:=au (C.setCell ⟨y,0,none⟩ (.pointer (some ⟨x,0,none⟩)));have I:Hid (gN U y 289 #[.pointer (some ⟨x,0,none⟩)]):=ay (by rw[<-z];exact f.o.gR 0 _)
 have J:Hid (gN U (y+1) 43 #[.int .i64 0]):=ay (by rw[<-z];exact N.o.far (by show y+1≠y;omega) _)
 have L:Hid (kX U x r 0 0 false (.slice none 0 0)):=ay (by rw[<-z];exact gN.far T.o (by show x≠y;omega) _)
 have V:Hid (hM U r (lA k t) 0):=ay (by rw[<-z];exact hM.apart R.o (by show r≠y;omega) f.o ab _)
 have X:Hid (aq w U):=ay (by rw[<-z];exact S.o.setCell (by show _<=y;omega) _)
 have zN:U.heap.size=x+1:=by rw[<-z,bW];exact I4
 rw[z];clear z p M b f N T R S
 go_upto_region 6 with fail;obtain⟨M,s⟩:=au (U.alloc (.cells #[.func (.func 296) #[] #[],.func (.func 297) #[] #[]] 397));have Y6:Hid (gN M (x+1) 397 #[.func (.func 296) #[] #[],.func (.func 297) #[] #[]]):=ay (by rw[<-s,<-zN];exact gN.new _ _ _)
 have z:aq U M:=by rw[<-s];exact bw
 have Sr:M.heap.size=x+2:=by rw[<-s,aI,zN]
 have Y:=I.o.keep z;have VX:=ay Y;have VY:=ay (J.o.keep z);have f:=gN.keep L.o z;have L6:Hid (kX M x r 0 0 false (.slice none 0 0)):=ay f;have R6:=ay (V.o.keep z);have V0:=ay (X.o.trans (z.mono X.o.size));have b:=Y.k0;have T:=f.k0;have CT:=ay (x8 (n:=3) M R6.o (by have:=P.o;omega) (by have:=P.o;omega) aa)
 have p:((lA k t).drop 0).take 3=[81,83,2]:=by rw[pG];rfl
 rw[p] at CT;try rw[s]
 clear s z Y f I J L V X p
 go_wp2_with fail;refine(CT.o).mono ?_
 rintro e f ⟨u7,rfl,s,Y,z⟩;have D:=ay z;have E:=ay Y;have hxr:x≠r:=by have:=a.o;omega
 have V:=ay (L6.o.touch z hxr);have S:Hid (gN f y 289 #[.pointer (some ⟨x,0,none⟩)]):=ay ((z.block y VX.o.lt (by show y≠r;omega)).trans VX.o)
 have G:Hid (gN f (y+1) 43 #[.int .i64 0]):=ay ((z.block (y+1) VY.o.lt (by show y+1≠r;omega)).trans VY.o)
 have I:Hid (gN f (x+1) 397 #[.func (.func 296) #[] #[],.func (.func 297) #[] #[]]):=ay ((z.block (x+1) Y6.o.lt (by show x+1≠r;have:=a.o;omega)).trans Y6.o)
 have YI:Hid (aq w f):=ay (V0.o.trans (z.below (λj hj=>by rw[show j=r from hj];omega) V0.o.size))
 obtain⟨H,c7,rfl,_,ZZ,_,_⟩:=s.pos ad
 have R:f.cell? ⟨H,0,none⟩=some (.int .u8 81):=s.cellAt (j:=0) (by simp) 0 ab
 have X:f.cell? ⟨H,1,none⟩=some (.int .u8 83):=s.cellAt (j:=1) (by simp) 0 ab
 have p:f.cell? ⟨H,2,none⟩=some (.int .u8 2):=s.cellAt (j:=2) (by simp) 0 ab
 have N:=ay p;clear z Y s b T
 go_wp2_with fail;refine(lB _).mono ?_
 rintro e d ⟨rfl,rfl⟩
 go_upto_region 8 with fail;have b:Hid (f.cell? ⟨y,0,none⟩=some (.pointer (some ⟨x,0,none⟩))):=ay (S.o.cell 0);refine ki (λd=>d=f.drew) 7 (gW 0 7 []) (rfl) ?_
 iterate 7 refine jw (h:=λd T=>by subst T;have c0':f.drew.cell? ⟨y,0,none⟩=_:=b.o;have k2':f.drew.cell? ⟨H,2,none⟩=_:=N.o;exact Qv) ?_
 refine gU ?_
 simp only[bc,bp];have s:f.drew.frozen? ⟨x,1,none⟩=false:=gN.frozen V.o 1;have z:f.drew.cell? ⟨x,1,none⟩=some (.int .i64 0):=gN.cell V.o 1
 go_wp2_with fail;refine gQ ?_
 clear s z R X p;have X:Hid (kX (f.setCell ⟨x,1,none⟩ (.int .i64 2)).drew x r 2 0 false (.slice none 0 0)):=ay V.o.UP;have F:Hid (hM (f.setCell ⟨x,1,none⟩ (.int .i64 2)).drew r (lA k t) (0+3)):=ay (hM.apart (p:=⟨x,1,none⟩) E.o (λe=>hxr e.symm) V.o ab _)
 have hx2:y≠x:=by have:=a.o;omega
 have hx3:y+1≠x:=by have:=a.o;omega
 have z:Hid (gN (f.setCell ⟨x,1,none⟩ (.int .i64 2)).drew y 289 #[.pointer (some ⟨x,0,none⟩)]):=ay (S.o.far (p:=⟨x,1,none⟩) hx2 _);have R:Hid (gN (f.setCell ⟨x,1,none⟩ (.int .i64 2)).drew (y+1) 43 #[.int .i64 0]):=ay (G.o.far (p:=⟨x,1,none⟩) hx3 _);have J:Hid (gN (f.setCell ⟨x,1,none⟩ (.int .i64 2)).drew (x+1) 397 #[.func (.func 296) #[] #[],.func (.func 297) #[] #[]]):=ay (I.o.far (p:=⟨x,1,none⟩) (by show x+1≠x;omega) _)
 have L:Hid (aq w (f.setCell ⟨x,1,none⟩ (.int .i64 2)).drew):=ay (YI.o.setCell (by show _<=x;have:=a.o;omega) _).drew
 obtain⟨s,Y⟩:=au ((f.setCell ⟨x,1,none⟩ (.int .i64 2)).drew);rw[Y] at X F z R J L;try rw[Y]
 have Z0:=gN.lt X.o;have d0:Hid (s.cell? ⟨y,0,none⟩=some (.pointer (some ⟨x,0,none⟩))):=ay (z.o.cell 0);have i:Hid (s.cell? ⟨x,1,none⟩=some (.int .i64 2)):=ay (gN.cell X.o 1);have W:Hid (s.cell? ⟨x+1,1,none⟩=some (.func (.func 297) #[] #[])):=ay (J.o.cell 1);have YJ:aq s s.drew:=(aC _ _).drew;have o:=ay (LI s.drew (X.o.drew) (F.o.keep YJ) PO.o hxr aa  aa ht0 ht1 hl0 hl1)
 clear Y V S G I E D N b;have eg:=enters_of func297 (by kernel_rfl) rfl
 go_upto_region 9 with fail;refine ki (λd=>d=s.drew) 9 (gW 0 9 []) (rfl) ?_
 iterate 9 refine jw (h:=λd T=>by subst T;have d0':s.drew.cell? ⟨y,0,none⟩=_:=d0.o;have d1':s.drew.cell? ⟨x,1,none⟩=_:=i.o;have Z1:s.drew.cell? ⟨x+1,1,none⟩=_:=W.o;have e1:IntKind.i64.wrap 1=1:=rfl;exact Qv) ?_
 refine gU ?_
 simp only[bc,bp]
 go_wp2_with fail;refine(o.o).mono ?_
 rintro e T ⟨rfl,u,S,V,I⟩;have N:Hid (Touch (λj=>j=x\/j=r) s T):=ay (((Touch.refl _ s).drew).trans I (λ_ h=>.inl h))
 have m:=ay S;have l:=ay V;have hnx:¬(y=x\/y=r):=by have:=a.o;omega
 have hnx3:¬(y+1=x\/y+1=r):=by have:=a.o;omega
 have Y:=(N.o.block y z.o.lt hnx).trans z.o;have D:Hid (gN T y 289 #[.pointer (some ⟨x,0,none⟩)]):=ay Y;have E:Hid (gN T (y+1) 43 #[.int .i64 0]):=ay ((N.o.block (y+1) R.o.lt hnx3).trans R.o);have V1:Hid (aq w T):=ay (L.o.trans (N.o.below (λj hj=>by have:=a.o;omega) L.o.size))
 have G:=ay (IJ T S (oN.2 V.rd) hk0 hk1 aa)
 have b:T.cell? ⟨y,0,none⟩=some (.pointer (some ⟨x,0,none⟩)):=gN.cell Y 0;clear S V I o Y X F z R J d0 i W
 go_wp2_with fail;refine gQ ?_
 go_wp2_with fail;refine(G.o).mono ?_
 rintro e j ⟨u10,rfl,Y,z⟩;have S:=ay (V1.o.trans (z.mono V1.o.size));have F:Hid (kX j x r 2 k false u):=ay (gN.keep m.o z);have I:=ay (l.o.keep z);have g10:=D.o.keep z;have UQ:=E.o.keep z;have J:=ay UQ;have R:=ay g10;have V:=ay (sj u10 _ _ _ j (oN.2 Y.rd) (HV.o.keep S.o) (by have:=P.o;omega) (by have:=P.o;omega))
 have TP:=L.o.size;have Tc:=N.o.size;have UR:∃A c,u10=.slice A (ao (lA k t)) c:=by obtain⟨A',c',e,_⟩:=Y.form;exact⟨_,_,e⟩
 clear Y z G b D E m l;obtain⟨Yh,c10,rfl⟩:=UR
 go_wp2_with fail;refine(V.o).mono ?_
 rintro e E ⟨rfl,z⟩;have i:=ay (S.o.trans (z.mono S.o.size));have W:Hid (kX E x r 2 k false u):=ay (gN.keep F.o z);have G:=ay (I.o.keep z);have X:=R.o.keep z;have Y:=J.o.keep z;have o:=ay X;have m:=ay Y;have l:=X.k0;have a1:=X.frozen 0;have D:=Y.k0;have b1:=Y.frozen 0;clear z X Y V R J F I
 go_wp2_with fail;refine(lB _).mono ?_
 rintro e d ⟨rfl,rfl⟩
 go_wp2_with fail;refine(show Leaves prog Tryz.f215 _ _ _ .returning _ from ?_)
 have F:y≠y+1:=aa
 have R:∀q,u.ownBlock=some q->s.heap.size<=q:=λq e=>(G.o.lt q e).1
 have Yn:y+1<s.heap.size:=by have:=a.o;omega
 obtain⟨V,b⟩:=au ((E.setCell ⟨y,0,none⟩ (.pointer (some ⟨x,0,none⟩))).setCell ⟨y+1,0,none⟩ (.int .i64 0));have X:gN V y 289 #[.pointer (some ⟨x,0,none⟩)]:=by rw[<-b];exact(o.o.gR 0 _).far F _
 have Y:gN V (y+1) 43 #[.int .i64 0]:=by rw[<-b];exact(m.o.far (p:=⟨y,0,none⟩) ad _).gR 0 _
 have I:kX V x r 2 k false u:=by rw[<-b];exact(gN.far W.o (p:=⟨y,0,none⟩) (by show x≠y;have:=a.o;omega) _).far (by show x≠y+1;have:=a.o;omega) _
 have J:gO bE s.heap.size V u t:=by rw[<-b];exact(G.o.far (p:=⟨y,0,none⟩) (λe=>by have:=R _ e;have h:s.heap.size<=y:=this;omega) _).far (λe=>by have:=R _ e;have h:s.heap.size<=y+1:=this;omega) _
 have z:aq w V:=by rw[<-b];exact(i.o.setCell (by show _<=y;omega) _).setCell (by show _<=y+1;omega) _
 rw[b];exact D6 y (y+1) _ _ _ rfl rfl _ (X.cell 0) (Y.cell 0) ⟨x,r,u,rfl,I,gO.more J TP,z⟩
def IL(k y:Int)(v:Value)(t:List Int)(w:World)(s:jf .u8 w v (lA k t))(x:oc (lA k t))(b:1<=k)(a:k<=4)(V:0<ao t)(U:ao t<=1000000)(Y:(ao t:Int)<=y)(X:y<=1048576) :
 ar Oe 136 #[v,.int .i64 y] w λe z=>∃u,e=.returned (.tuple #[.int .u8 k,u,.int .i64 0])/\gO bE w.heap.size z u t/\aq w z:=by
 have C:=ay (IK k y v t w s x b a V U Y X);clear s x
 go_in
 go_wp2_with fail;refine(C.o).mono ?_
 rintro e q ⟨x,r,u,rfl,s,g,p⟩;have O:=ay g;have f:=ay p;have d:=ay (gN.cell s 2);have c:=ay (gN.cell s 4);clear s g p C
 go_upto_region 4 with fail;refine i' (λz=>z=q.drew) (gW 0 11 []) (rfl) ?_
 iterate 11 refine hC (h:=λz s=>by subst s;have p:q.drew.cell? ⟨x,2,none⟩=some (.int .u8 k):=d.o;have g:q.drew.cell? ⟨x,4,none⟩=some u:=c.o;exact Qv) ?_
 refine gM ?_
 go_wp2;refine an ?_
 exact⟨_,rfl,O.o,f.o.drew⟩
def i9.FP:i9->Nat
 | .h ..=>1
 | .d ..=>2
 | .t ..=>3
 | .k ..=>4
def N3(z:i9)(p:Nat):(z.five p)[0]?=some (.int .u8 z.FP):=by cases z<;>rfl
def LK(z:i9):1<=(z.FP:Int)/\(z.FP:Int)<=4:=by cases z<;>simp[i9.FP]
def LM{F:Ft}(w:World)(h:iX sp c x F w)(ok:je sp c)(R:ao (km sp c)<=1000000) :
 ar Oe 65 #[.pointer (some ⟨x,0,none⟩),.int .i64 2] w λe t=>∃v,e=.returned (.tuple #[v,.int .i64 0])/\gO bE w.heap.size t v (lA sp.FP (km sp c))/\aq w t:=by
 have v:aq w w.drew:=(aC _ _).drew;have b:=ay (rR w.drew ((h_ sp c x).keep h v) ok);obtain⟨p,G,y,_⟩:=h;have z:=y.cell 0;rw[N3] at z;have T:=y.lt;have g:=ay z;obtain⟨V,U⟩:=LK sp;have d:Hid (∀u W,jf .u8 W u (km sp c)->_):=ay (λu W s=>BT sp.FP u (km sp c) W s V U aa)
 generalize km sp c=P at *;generalize ((sp.FP:Nat):Int)=Q at *;clear y z ok
 go_in
 go_upto_region 6 with fail;have Z:=ay (λ(t:World) (z:(aq w) t)=>((z.cell (p:=⟨x,0,none⟩) T).trans g.o))
 refine i' (aq w) (gW 0 5 (gW 6 2 (ib 5 (ib 8 (gW 9 4 []))))) (v) ?_
 iterate 7 refine hC ?_
 refine iy λK z=>?_
 go_simp;refine(b.o).mono ?_
 rintro e q ⟨u,rfl,s,Y⟩;have y:aq w q:=v.trans Y;have f:=ay (d.o u q (gT.rd s));clear s;refine z _ _ (y) ?_
 clear z K;refine iy λK z=>?_
 go_simp;refine(f.o).mono ?_
 rintro e S ⟨O,rfl,r,X⟩;have s:aq w S:=y.trans (X.mono y.size);have a:=ay (gO.more r y.size);clear r;refine z _ _ (s) ?_
 clear z K
 iterate 4 refine hC ?_
 refine gM ?_
 go_wp2
 go_ret2
 exact⟨_,rfl,a.o,s⟩
def LN(y:Int)(v:Value)(w:World)(r:jf .u8 w v (lA sp.FP (km sp c)))(t:oc (lA sp.FP (km sp c)))(a:0<ao (km sp c))(Y:ao (km sp c)<=1000000)(d:(ao (km sp c):Int)<=y)(b:y<=1048576)
 (s:∀(u:Value) (W:World),jf .u8 W u (km sp c)->ar Oe 101 #[.int .u8 sp.FP,u] W λe z=>∃x,e=.returned (.tuple #[.pointer (some ⟨x,0,none⟩),.int .i64 0])/\iX sp c x (Gr (λ_=>False) W z) z/\aq W z) :
 ar Oe 66 #[v,.int .i64 y] w λe z=>∃x,e=.returned (.tuple #[.pointer (some ⟨x,0,none⟩),.int .i64 0])/\iX sp c x (Gr (λ_=>False) w z) z/\aq w z:=by
 obtain⟨X,V⟩:=LK sp;have C:=ay (IL sp.FP y v _ w r t X V a Y d b);have g:=ay s;clear r t s
 go_in
 go_wp2_with fail;refine(C.o).mono ?_
 rintro e U ⟨u,rfl,s,t⟩;have q:=ay (g.o u U (oN.2 s.rd));clear s C
 go_wp2_with fail;refine(q.o).mono ?_
 rintro e T ⟨x,rfl,r,f⟩;have p:=ay ((h_ sp c x).more r (G:=Gr (λ_=>False) w T) (λk s=>s.imp id (λh=>⟨bf t.size h.1,h.2⟩)) (λk s=>s.elim False.elim And.right))
 have s:=ay (t.trans (f.mono t.size));clear r
 go_wp2
 go_ret2
 exact⟨_,rfl,p.o,s.o⟩
end D
namespace K
def LO{F:Nat->Prop}{g k n led a c:Nat}{lv:Value}{vs:List Sv}{L:LL}{cq:Option Addr}(v:Int)(w:World)(y:oy F w g k n led lv vs L)(z:jn (L,led,a))
 (s:n=wt L) (hc0:0<c) (hc:n+c<=281474976710656) (W:cnt L<=900000) (l:2<=k) (hk:k<=1000000) (t:iY k (iU L v c)=none) :
 ar Oe 133 #[.pointer (some ⟨g,0,none⟩),.int .i64 v,.int .u64 c,.pointer cq] w λe I=>e=.returned (.int .i64 0)/\∃u x r,oy u I g k (n+c) led x r (iU L v c)/\(∀x,u x->F x\/w.heap.size<=x)/\(∀x,F x->u x)/\Touch F w I:=by
 have G:Hid (Nt F w g k (n+c) led v c L 0 F (w.setCell ⟨g,2,none⟩ (.int .u64 (n+c:Nat))) lv vs L):=ay ⟨y.Dj _,by simp[iU],z.iJ,z.len,aD _,λ_ h=>.inl h,λ_ h=>h,Touch.setCell (Touch.refl _ _) (.inl y.fg) _⟩
 have k2:=y.cell2;have f2:=y.blk.frozen 2;have D:=ay t;have KL:=ay z;have U:=ay (px z v c aa W)
 clear y z s t;have hc1:¬(c:Int)=0:=aa
 have hc2:¬(c:Int) > 281474976710656 - (n:Int):=aa
 go_in
 go_wp2
 go_loopg [9] 64 (λq i wr=>∃(j:Nat) (r:Nat->Prop) (p:Value) (f:List Sv) (y:LL),q=64 - j/\j<=49/\i=.int .i64 (j:Int)/\Hid (Nt F w g k (n+c) led v c L j r wr p f y))
 case atStart=>
  have z:=G.o;rw[dI] at z;exact⟨0,F,lv,vs,L,rfl,aa,rfl,ay z⟩
 case round=>
  obtain⟨j,r,p,f,y,x,hj,rfl,z⟩:=hrel;have R:=ay x;clear x;obtain⟨m,b⟩:=au (c / 2 ^ j);have hmc:m<=c:=by rw[<-b];exact dz ..
  have t:(c:Int) / 2 ^ j=(m:Int):=by
   rw[<-b,fX,eM];rfl
  have s:=ay b;have d:=ay t;clear t;have hsz:=z.o.touch.size
  by_cases O:m=0
  ·have h:¬(m:Int) > 0:=aa
   have u:y=iU L v c:=by rw[z.o.eq,s.o,O,sv]
   subst u;have x:=ay (xR (.func (.func 179) #[.pointer cq] #[]) wr z.o.st l hk (by have:=U.o.len;exact bf this ab) (by have:=U.o.cnt;exact bf this ab) D.o)
   go_wp2_with (first|(have t:=d.o;rw[t]))
   refine(x.o).mono ?_
   rintro e w2 ⟨rfl,q⟩;subst q;clear x
   go_wp2;refine an ?_
   exact⟨rfl,r,p,f,z.o.st,z.o.sub,z.o.sup,z.o.touch⟩
  ·have h:(m:Int) > 0:=aa
   have RA:j<=48:=by
    rcases bg j 49 with u|u
    ·omega
    ·have x:2 ^ 49<=2 ^ j:=bJ ab u
     have q:c / 2 ^ j=0:=eD aa
     have:=s.o;omega
   have x:c / 2 ^ (j+1)=m / 2:=by rw[b_,<-ei,s.o]
   have T:Hid (mq (64 - j) j m y v=mq (64 - (j+1)) (j+1) (m / 2) (if m % 2=1 then kk y j [v] else y) v):=ay (by
    rw[show 64 - j=(64 - (j+1))+1 by omega,mq,aG O])
   have V:=ay x;have X:=ay (and_one m aa)
   clear x;have RB:j+1<=49:=aa
   by_cases N:m % 2=1
   ·have Y:((m % 2:Nat):Int)=1:=aa
    have S:=ay (put_any j (.slice (some ⟨wr.heap.size,0,none⟩) 1 1) [v] (wr.alloc (.cells #[.int .i64 v] 2)) (z.o.st.keep ((aC _ _).alloc (aD _) _)) (Aside.lT (gO.one (E:=ig) wr v _ rfl _ rfl) λx e u=>by
     have e:=bC (show some wr.heap.size=some x from e)
     have:=z.o.st.low x u;omega) (z.o.iJ j) aa (by have:=z.o.len;omega) (by have:=hD y j;have:=z.o.cnt;omega) ad)
    have t:=d.o;have o:bits .and .u64 (m:Int) 1=1:=by rw[X.o];exact Y
    go_wp2_with fail;refine(S.o).mono ?_
    rintro e w2 ⟨rfl,H,DC,vs2,q,M,K,J⟩;have Q:=ay q;have C:=ay M;have B:=ay K;have A:=ay J;have P:(wr.alloc (.cells #[.int .i64 v] 2)).heap.size=wr.heap.size+1:=ad
    rw[P] at q;have Q:=ay q;clear q M K J S P
    go_wp2
    go_roundg (64 - (j+1))
    case measure=>have:=R.o;omega
    case rel=>
     refine⟨j+1,H,DC,vs2,kk y j [v],rfl,aa,ag,ay ⟨B.o,?_,rM z.o.iJ j [v],?_,?_,?_,?_,?_⟩⟩
     ·rw[z.o.eq,s.o,V.o,T.o,aH N]
     ·rw[iF];have:=z.o.len;omega
     ·rw[mo];have:=z.o.cnt;simp;omega
     ·intro x q
      rcases Q.o x q with u|u
      ·exact z.o.sub x u
      ·exact .inr aa
     ·exact λx q=>C.o x (z.o.sup x q)
     ·exact(z.o.touch.alloc _).trans A.o λi S=>z.o.sub i S
   ·have Y:((m % 2:Nat):Int)=0:=aa
    have t:=d.o;have o:bits .and .u64 (m:Int) 1=0:=by rw[X.o];exact Y
    go_wp2
    go_roundg (64 - (j+1))
    case measure=>have:=R.o;omega
    case rel=>
     refine⟨j+1,r,p,f,y,rfl,aa,ag,ay ⟨z.o.st,?_,z.o.iJ,z.o.len,?_,z.o.sub,z.o.sup,z.o.touch⟩⟩
     ·rw[z.o.eq,s.o,V.o,T.o,aG N]
     ·have:=z.o.cnt;omega
end K
namespace D
def mkV:Value:=.agg #[.func (.func 180) #[] #[],.func (.func 181) #[] #[],.func (.func 182) #[] #[],.func (.func 183) #[] #[],
 .func (.func 184) #[] #[],.func (.func 185) #[] #[],.func (.func 186) #[] #[],.func (.func 187) #[] #[]]
def vQ(w:World):ar Oe 108 #[] w (aw w mkV):=by
 unfold mkV
 go_in
 go_wp2;refine an ?_
 exact⟨rfl,bw⟩
section
variable {R : Nat -> World -> Prop} {lo hi dg ac sz : Int} {gr : Bool}
def qf{kd:Int}{mf:Nat}(Uv:(kd=1/\mf=180)\/(kd=2/\mf=182)\/(kd=3/\mf=184)\/(kd=4/\mf=186))(w:World)(E:∀y z,aq w z->w.heap.size<=y->gN z y 124 #[.int .u8 kd,.pointer none,.pointer none,.pointer none,.pointer none]->Calls prog mf #[.pointer (some ⟨y,0,none⟩),iv kd lo hi dg gr ac sz] z λe x=>e=.returned (.int .i64 0)/\R y x/\Touch (λj=>j=y) z x)
 (D:∀y z,R y z->ar Oe 53 #[.pointer (some ⟨y,0,none⟩)] z λe x=>e=.returned (iv kd lo hi dg gr ac sz)/\aq z x)
 (F:∀y z x,R y z->aq z x->R y x) :
 ar Oe 46 #[iv kd lo hi dg gr ac sz] w λe x=>∃y,e=.returned (.tuple #[.pointer (some ⟨y,0,none⟩),.int .i64 0])/\R y x/\aq w x:=by
 obtain⟨J,hcs⟩:∃q:Array Value,q=#[.int .u8 kd,.int .i64 lo,.int .i64 hi,.int .i64 dg,.bool gr,.int .i64 ac,.int .i64 sz]:=⟨_,rfl⟩;obtain⟨I,hfv⟩:∃q:Array Value,q=#[.int .u8 kd,.pointer none,.pointer none,.pointer none,.pointer none]:=⟨_,rfl⟩;have l:=λW=>uV kd W aa  aa
 rcases Uv with⟨rfl,rfl⟩|⟨rfl,rfl⟩|⟨rfl,rfl⟩|⟨rfl,rfl⟩
 all_goals
  have n:=ay E;have i:=ay D;have Q:=ay F;clear E D F;unfold iv at *;obtain⟨b,y⟩:=au (w.heap.size);obtain⟨s,u⟩:=au (w.alloc (.cells J 33));have H:aq w s:=by rw[<-u];exact bw
  have r:Hid (gN s b 33 J):=by rw[<-u,<-y];exact ay (gN.new _ _ _)
  subst hcs;have t:s.heap.size=b+1:=by rw[<-u,<-y,aI]
  have v:=r.o.k0;have A:=ay (l s);have o:=ay y
  go_in
  go_upto_region 1 with fail;have O:=ay t;clear u y t
  go_wp2_with fail;refine(A.o).mono ?_
  rintro e x ⟨rfl,rfl⟩;obtain⟨y,u⟩:=au (s.alloc (.cells I 124));have z:aq s y:=by rw[<-u];exact bw
  have q:aq w y:=H.trans (z.mono H.size);have Y0:Hid (gN y (b+1) 124 I):=by rw[<-u,<-O.o];exact ay (gN.new _ _ _)
  subst hfv;have C:=ay (r.o.keep z)
  go_upto_region 4 with fail;try rw[u]
  try rw[O.o]
  clear u v z r;have r:=C;obtain⟨v,z,u,t,p,g,f⟩:=r.o.c7;have a:=ay v;have Y:=ay z;have X:=ay u;have V:=ay t;have U:=ay p;have T:=ay g;have S:=ay f;clear v z u t p g f;have v:b<y.heap.size:=r.o.lt;have u:¬(b=b+1):=aa
  have G:w.heap.size<=b+1:=by have:=o.o;omega
  have k:Touch (λj=>j=b+1) y y.drew:=(Touch.refl _ y).drew
  have B:aq y y.drew:=(aC _ _).drew;have Z:=ay (λ(x:World) (z:(Touch (λj=>j=b+1) y) x)=>(aF (((ik z 0 v u).trans a.o)) (aF (((ik z 1 v u).trans Y.o)) (aF (((ik z 2 v u).trans X.o)) (aF (((ik z 3 v u).trans V.o)) (aF (((ik z 4 v u).trans U.o)) (aF (((ik z 5 v u).trans T.o)) (((ik z 6 v u).trans S.o)))))))))
  refine i' (Touch (λj=>j=b+1) y) (gW 1 3 (gW 6 2 (ib 0 (gW 4 2 (ib 8 (gW 9 1 [])))))) (k) ?_
  iterate 5 refine hC ?_
  refine iy λK t=>?_
  go_simp;refine(vQ y.drew).mono ?_
  rintro e p ⟨rfl,hbs⟩;have g:aq y p:=B.trans hbs;have L:Touch (λj=>j=b+1) y p:=Touch.of_below g (aD _)
  have hb1:aq w p:=q.trans (g.mono q.size);have c:=ay (n.o (b+1) p hb1 G (Y0.o.keep g));unfold mkV;refine t _ _ (L) ?_
  clear t K
  iterate 2 refine hC ?_
  refine iy λK t=>?_
  go_simp;refine(c.o).mono ?_
  rintro e wt ⟨rfl,hr,ht⟩;have f:Touch (λj=>j=b+1) y wt:=L.trans ht (λ_ h=>.inl h)
  have P:=ay hr;have N:=ay (q.trans (f.below (λj d=>by rw[show j=b+1 from d];exact G) q.size))
  refine t _ _ (f) ?_
  clear t K;refine hC ?_
  refine gM ?_
  have M:Touch (λj=>j=b+1) y wt.drew:=f.drew
  have d:aq wt wt.drew:=(aC _ _).drew;have m:=ay (i.o (b+1) wt.drew (Q.o _ _ _ P.o d));have zt:=N.o.size;clear c
  go_upto_region 5 with fail;have Z:=ay (λ(x:World) (z:(Touch (λj=>j=b+1) y) x)=>(aF (((ik z 0 v u).trans a.o)) (aF (((ik z 1 v u).trans Y.o)) (aF (((ik z 2 v u).trans X.o)) (aF (((ik z 3 v u).trans V.o)) (aF (((ik z 4 v u).trans U.o)) (aF (((ik z 5 v u).trans T.o)) (((ik z 6 v u).trans S.o)))))))))
  refine i' (Touch (λj=>j=b+1) y) (gW 0 4 (gW 5 1 (ib 4 (gW 6 2 [])))) (M) ?_
  iterate 5 refine hC ?_
  refine iy λK t=>?_
  go_simp;refine(m.o).mono ?_
  rintro e wu ⟨rfl,z⟩;have h:Touch (λj=>j=b+1) y wu:=U6 M z
  have c:=ay (N.o.trans ((d.trans z).mono zt));have j:=ay (Q.o _ _ _ P.o (d.trans z));refine t _ _ (h) ?_
  clear t K
  iterate 2 refine hC ?_
  refine gM ?_
  go_wp2;refine an ?_
  exact⟨_,rfl,j.o,c.o⟩
end
section
variable {R : Nat -> World -> Prop}
def D7(v:Value)(bs:List Int)(w:World)(r:jf .u8 w v bs)(g:ao bs<=1000000000000)(t:∀y x z,aq w z->w.heap.size<=y->gN z y 124 #[.int .u8 4,.pointer none,.pointer none,.pointer none,.pointer none]->jf .u8 z x bs->ar Oe 187 #[.pointer (some ⟨y,0,none⟩),x] z λe x=>e=.returned (.int .i64 0)/\R y x/\Touch (λj=>j=y) z x)
 (s:∀y z,R y z->ar Oe 54 #[.pointer (some ⟨y,0,none⟩)] z λe x=>∃v,e=.returned v/\OwnB z.heap.size x v bs/\aq z x)
 (u:∀y z x,R y z->aq z x->R y x) :
 ar Oe 101 #[.int .u8 4,v] w λe x=>∃y,e=.returned (.tuple #[.pointer (some ⟨y,0,none⟩),.int .i64 0])/\R y x/\aq w x:=by
 have J:=ay t;have I:=ay s;have f:=ay u;have c:=ay r;clear t s u r;have N:=ay (uV 4 w ab  ab)
 obtain⟨b,s⟩:=au (w.heap.size)
 go_in
 go_wp2_with fail;refine(N.o).mono ?_
 rintro e x ⟨rfl,rfl⟩;obtain⟨y,t⟩:=au (w.alloc (.cells #[.int .u8 4,.pointer none,.pointer none,.pointer none,.pointer none] 124));have u:aq w y:=by rw[<-t];exact bw
 have D:Hid (gN y b 124 #[.int .u8 4,.pointer none,.pointer none,.pointer none,.pointer none]):=by rw[<-t,<-s];exact ay (gN.new _ _ _)
 have L:=ay s
 go_upto_region 4 with fail;try rw[t]
 clear t s;have U:w.heap.size<=b:=by have:=L.o;omega
 have F:Touch (λj=>j=b) y y.drew:=(Touch.refl _ y).drew
 have P:aq y y.drew:=(aC _ _).drew;refine i' (Touch (λj=>j=b) y) (gW 1 2 (gW 5 2 (ib 0 (gW 3 2 (ib 7 (ib 8 (gW 9 1 []))))))) (F) ?_
 iterate 4 refine hC (h:=λx V=>by skip;exact Qv) ?_
 refine iy λK z=>?_
 go_simp;refine(vQ y.drew).mono ?_
 rintro e s ⟨rfl,l⟩;have t:aq y s:=P.trans l;have E:Touch (λj=>j=b) y s:=Touch.of_below t (aD _)
 have C:aq w s:=u.trans (t.mono u.size);unfold mkV;have r:=ay (yr v bs s (c.o.keep C) g);refine z _ _ (E) ?_
 clear z K
 iterate 2 refine hC (h:=λx V=>by skip;exact Qv) ?_
 refine iy λK z=>?_
 go_simp;refine(r.o).mono ?_
 rintro e wc ⟨n,rfl,d,A⟩;have p:aq y wc:=t.trans (A.mono t.size);have Y:Touch (λj=>j=b) y wc:=Touch.of_below p (aD _)
 have B:aq w wc:=u.trans (p.mono u.size);have q:=ay (J.o b n wc B U (D.o.keep p) d.rd);clear d;refine z _ _ (Y) ?_
 clear z K;refine iy λK z=>?_
 go_simp;refine(q.o).mono ?_
 rintro e wt ⟨rfl,m,o⟩;have X:Touch (λj=>j=b) y wt:=Y.trans o (λ_ h=>.inl h)
 have d:=ay m;have a:=ay (u.trans (X.below (λj T=>by rw[show j=b from T];exact U) u.size))
 refine z _ _ (X) ?_
 clear z K;refine hC (h:=λx V=>by skip;exact Qv) ?_
 refine gM ?_
 have M:=ay (I.o b wt d.o);have j:=a.o.size;clear q r
 go_wp2_with fail;refine(M.o).mono ?_
 rintro e r ⟨S,rfl,T,V⟩;have q:=ay (a.o.trans (V.mono j));have H:=ay (f.o _ _ _ d.o V);have O:Hid (ar Oe 170 #[S,v] r λe x=>e=.returned (.bool true)/\aq r x):=ay ((sj S v bs bs r T.rd (c.o.keep q.o) g g).mono (λe x h=>⟨by rw[h.1];simp,h.2⟩))
 clear T
 go_wp2_with fail;refine(O.o).mono ?_
 rintro e W ⟨rfl,T⟩;have Q:=ay (q.o.trans (T.mono q.o.size));have G:=ay (f.o _ _ _ H.o T)
 go_wp2;refine an ?_
 exact⟨_,rfl,G.o,Q.o⟩
end
variable{sp:i9}{c:Js}{y:Nat}{w':World}
def nV{i:Nat}{cs:Array Value}{w0 w1:World}{e:Ending}(h:qJ y i cs (λp w'=>∃x G,p=j_ x/\ql sp c x G w'/\∀k,G k->w1.heap.size<=k) w1 e w')(r:∀x,cs.setIfInBounds i (j_ x)=sp.five x)(b:y<w1.heap.size)(f:w0.heap.size<=y) :
 e=.returned (.int .i64 0)/\(∃F,iX sp c y F w'/\∀k,F k->w0.heap.size<=k)/\Touch (λj=>j=y) w1 w':=by
 obtain⟨rfl,p,a,⟨x,G,rfl,t,u⟩,d,v,q,g⟩:=h;rw[r] at v;have I:=(iR sp c x).far t q (λk z e=>by have:=u k z;rw[show k=y from e] at this;omega)
 refine⟨rfl,⟨λk=>k=y\/G k,⟨x,G,v,I,.inl rfl,λs=>by have:=u y s;omega,λk z=>.inr z,λk z=>z.elim (λe=>by rw[e];exact v.lt) ((iR sp c x).low I k)⟩,λk z=>z.elim (λe=>by rw[e];exact f) (λh=>by have:=u k h;omega)⟩,g⟩
def pH{w:World}(h:∃F,iX sp c y F w'/\∀k,F k->w.heap.size<=k):iX sp c y (Gr (λ_=>False) w w') w':=by
 obtain⟨F,x,v⟩:=h;exact(h_ sp c y).more x (λk z=>.inr ⟨v k z,(h_ sp c y).low x k z⟩) (λk z=>z.elim False.elim And.right)
def ze(w:World)(ok:oU sp):ar Oe 46 #[sp.v] w λe z=>∃x,e=.returned (.tuple #[.pointer (some ⟨x,0,none⟩),.int .i64 0])/\iX sp sp.new x (Gr (λ_=>False) w z) z/\aq w z:=by
 have U:∀y v,(∃F,iX sp sp.new y F v/\∀k,F k->w.heap.size<=k)->ar Oe 53 #[.pointer (some ⟨y,0,none⟩)] v λe z=>e=.returned sp.v/\aq v z:=λy v ⟨F,h,_⟩=>FK v h (vB ok)
 have g:∀y v z,(∃F,iX sp sp.new y F v/\∀k,F k->w.heap.size<=k)->aq v z->(∃F,iX sp sp.new y F z/\∀k,F k->w.heap.size<=k):=λy v z ⟨F,h,s⟩ V=>⟨F,(h_ sp _ y).keep h V,s⟩
 cases sp with
 | h lo hi dg u m gr=>
  refine(qf (.inl ⟨rfl,rfl⟩) w (λy v V X f=>?_) U g).mono (λe z ⟨x,r,s,b⟩=>⟨x,r,pH s,b⟩)
  refine(At f (Q:=λp z=>∃x G,p=j_ x/\ql (.h lo hi dg u m gr) (i9.h lo hi dg u m gr).new x G z/\∀k,G k->v.heap.size<=k) (λc Y=>?_)).mono (λe z h=>nV h (λx=>rfl) f.lt X)
  refine(Ng gr c ok).mono ?_
  rintro e z ⟨x,rfl,r,s⟩;exact⟨x,rfl,⟨x,_,rfl,r,λk g=>g.elim False.elim (λh=>bf Y.size h.1)⟩,s⟩
 | d a m=>
  refine(qf (.inr (.inl ⟨rfl,rfl⟩)) w (λy v V X f=>?_) U g).mono (λe z ⟨x,r,s,b⟩=>⟨x,r,pH s,b⟩)
  refine(CZ f (Q:=λp z=>∃x G,p=j_ x/\ql (.d a m) (i9.d a m).new x G z/\∀k,G k->v.heap.size<=k) (λc Y=>?_)).mono (λe z h=>nV h (λx=>rfl) f.lt X)
  refine(Pn a m c ok.1 ok.2.1 ok.2.2.1 ok.2.2.2).mono ?_
  rintro e z ⟨x,rfl,r,s⟩;exact⟨x,rfl,⟨x,_,rfl,r,λk g=>g.elim False.elim (λh=>bf Y.size h.1)⟩,s⟩
 | t d=>
  refine(qf (.inr (.inr (.inl ⟨rfl,rfl⟩))) w (λy v V X f=>?_) U g).mono (λe z ⟨x,r,s,b⟩=>⟨x,r,pH s,b⟩)
  refine(uU f (Q:=λp z=>∃x G,p=j_ x/\ql (.t d) (i9.t d).new x G z/\∀k,G k->v.heap.size<=k) (λc Y=>?_)).mono (λe z h=>nV h (λx=>rfl) f.lt X)
  refine(MF d c (by have:=ok.1;omega) (by have:=ok.2;omega)).mono ?_
  rintro e z ⟨x,rfl,q,r,s⟩;exact⟨x,rfl,⟨x,λk=>k=x,rfl,r,λk g=>by rw[show k=x from g];exact bf Y.size q⟩,s⟩
 | k q=>
  refine(qf (.inr (.inr (.inr ⟨rfl,rfl⟩))) w (λy v V X f=>?_) U g).mono (λe z ⟨x,r,s,b⟩=>⟨x,r,pH s,b⟩)
  refine(As f (Q:=λp z=>∃x G,p=j_ x/\ql (.k q) (i9.k q).new x G z/\∀k,G k->v.heap.size<=k) (λc Y=>?_)).mono (λe z h=>nV h (λx=>rfl) f.lt X)
  refine(K.new_any q c ok.1 ok.2).mono ?_
  rintro e z ⟨rfl,rfl⟩;exact⟨_,rfl,⟨_,_,rfl,K.NB q c,λk g=>by rw[show k=c.heap.size from g];exact Y.size⟩,bw⟩
def nt.right{q:Nat}{L:K.LL}{led:Nat}(h:nt q L led):K.i_ q L led:=K.Iv h.fit h.q0 h.q1 h.emp
def oV:i9:=.k 8
def BV:i9:=.h 1 2000 3 0 11 true
def BW:Js:=⟨0,[],St.zero,[[3]],0⟩
def LP:oU BV:=⟨by decide,ab,ab,ab,ab,aj,aj,ab⟩
def LQ:oU oV:=by unfold oV oU;decide
def D8:K.iU [] 3 1=[[3]]:=aj
def LR:nt 8 [] 0:=vB (sp:=.k 8) LQ
def LS:K.Fit 8 [[3]] 0:=by
 have h:=K.px LR.fit.ok 3 1 aj  aj
 rw[D8] at h;exact⟨h,aj⟩
def sL:je oV BW:=by
 refine(show nt 8 [[3]] 0 from⟨LS,ab,ab,(λh=>by cases h),(λj x z=>?_)⟩)
 rcases j with _|j
 ·obtain rfl:x=3:=by simpa[K.lvl] using z
  decide
 ·simp[K.lvl] at z
def sN:km oV BW=[8,0,1,1,6]:=aj
def Sg:oc (lA oV.FP (km oV BW)):=by
 have h:(lA oV.FP (km oV BW)).all (λx=>decide (0<=x) && decide (x<=255))=true:=aj
 intro x z;have:=e_.1 h x z
 simpa using this
def Qn:rQ oV BW=1:=aj
def OM:ao (km BV BV.new)=46:=aj
def Sh:(km BV BV.new).take 5=[1,208,15,3,1]:=aj
def D9{x:Nat}{F:Ft}(w:World)(h:iX oV oV.new x F w) :
 ar Oe 64 #[.pointer (some ⟨x,0,none⟩),.int .i64 3,.int .u64 1,.pointer none] w λe z=>e=.returned (.int .i64 0)/\iX oV BW x (Gr F w z) z/\Touch F w z:=by
 obtain⟨p,G,u,t,b,X,Y,d⟩:=h;have U:=(iR oV _ p).low t;obtain⟨O,M,s⟩:=t;have f:oV.new.L=[]:=rfl;rw[f] at s;refine(xq (Q:=λg z=>g=.int .i64 0/\iX oV BW x (Gr F w z) z/\Touch F w z) u ?_).mono ?_
 ·refine(K.LO (a:=0) (c:=1) 3 w s LR.fit.ok rfl ab aj  aj ab  ab (by rw[D8];exact LS.none)).mono ?_
  rintro e z ⟨rfl,P,T,R,r,S,N,q⟩;rw[D8] at r;have V:ql oV BW p (Gr G w z) z:=(oD p 8 _ _).gr (w:=w) ⟨T,R,r⟩ S U q.size;obtain⟨y,v⟩:=yV (H:=λ_=>False) u b X Y d V (q.mono λ_ h=>.inl h) (λ_ h=>h.elim)
  exact⟨_,rfl,rfl,y,v.mono λk h=>h.elim id False.elim⟩
 ·rintro e z ⟨g,rfl,rfl,y,v⟩
  exact⟨rfl,y,v⟩
def N4(u:Value)(w:World)(h:jf .u8 w u (km oV BW)):ar Oe 101 #[.int .u8 oV.FP,u] w λe z=>∃x,e=.returned (.tuple #[.pointer (some ⟨x,0,none⟩),.int .i64 0])/\iX oV BW x (Gr (λ_=>False) w z) z/\aq w z:=by
 have c:∀y t,(∃F,iX oV BW y F t/\∀k,F k->w.heap.size<=k)->ar Oe 54 #[.pointer (some ⟨y,0,none⟩)] t λe z=>∃v,e=.returned v/\OwnB t.heap.size z v (km oV BW)/\aq t z:=λy t ⟨F,h,_⟩=>rR t h sL
 have f:∀y t z,(∃F,iX oV BW y F t/\∀k,F k->w.heap.size<=k)->aq t z->(∃F,iX oV BW y F z/\∀k,F k->w.heap.size<=k):=λy t z ⟨F,h,v⟩ g=>⟨F,(h_ oV _ y).keep h g,v⟩
 refine(D7 u _ w h (by rw[sN];decide) (λy a t g b q d=>?_) c f).mono (λe z ⟨x,s,v,r⟩=>⟨x,s,pH v,r⟩)
 refine(Ar q (Q:=λp z=>∃x G,p=j_ x/\ql oV BW x G z/\∀k,G k->t.heap.size<=k) ?_).mono (λe z h=>nV h (λx=>rfl) q.lt b)
 refine(K.Ir a t d (nt.right sL) (nt.bd sL)).mono ?_
 rintro e z ⟨x,F,rfl,s,v,r⟩;exact⟨x,rfl,⟨x,F,rfl,s,v⟩,r⟩
def BX(w:World):ar Oe 23 #[] w (aw w (.bool true)):=by
 have y:=ay (ze w LQ);have v:=λW=>ay (ze W LP)
 unfold oV i9.v iv at y;unfold BV i9.v iv at v;have z:strOfNums (km oV BW)=⟨#[8,0,1,1,6]⟩:=by rw[sN];rfl
 have x:strOfNums ((km BV BV.new).take 5)=⟨#[1,208,15,3,1]⟩:=by rw[Sh];rfl
 have U:=ay (aF z x);clear z x
 go_in
 go_wp2_with fail;refine(y.o).mono ?_
 rintro e s ⟨x,rfl,z,u⟩;have t:Hid (iX oV oV.new x (Gr (λ_=>False) w s) s):=ay z
 have d:=ay u;clear z u y
 go_wp2_with fail;refine((v s).o).mono ?_
 rintro e p ⟨y,rfl,r,u⟩;have c:Hid (iX BV BV.new y (Gr (λ_=>False) s p) p):=ay r
 have f:=ay ((h_ oV _ x).keep t.o u);have b:=ay (d.o.trans (u.mono d.o.size));have q:=ay (D9 p f.o);clear r u t v
 go_wp2_with fail;refine(q.o).mono ?_
 rintro e Q ⟨rfl,z,r⟩;have t:=ay z;have X:=ay ((h_ BV _ y).far c.o r (λk v u=>by
  rcases v with v|v
  ·exact v
  ·rcases u with u|u
   ·exact u
   ·omega))
 have a:Hid (aq w Q):=ay (b.o.trans (r.below (λk h=>h.elim False.elim And.left) b.o.size))
 have g:=ay (LM Q t.o sL (by rw[sN];decide))
 clear z r f c q
 go_wp2_with fail;refine(g.o).mono ?_
 rintro e D ⟨F,rfl,V,z⟩;have Y:=ay (a.o.trans (z.mono a.o.size));have q:=ay ((h_ oV _ x).keep t.o z);have f:=ay ((h_ BV _ y).keep X.o z);have r:=ay (LN (sp:=oV) (c:=BW) 100 F D (oN.2 V.rd) Sg (by rw[sN];decide) (by rw[sN];decide) (by rw[sN];decide) ab N4)
 clear V z g t X
 go_wp2_with fail;refine(r.o).mono ?_
 rintro e C ⟨z,rfl,V,t⟩;have X:=ay (Y.o.trans (t.mono Y.o.size));have T:=ay ((h_ oV _ x).keep q.o t);have N:=ay ((h_ BV _ y).keep f.o t);have S:=ay V;have g:=ay (rR C N.o (vB LP));clear V t r q f
 go_wp2_with fail;refine(g.o).mono ?_
 rintro e B ⟨l,rfl,q,t⟩;have V:=ay (X.o.trans (t.mono X.o.size));have O:=ay ((h_ oV _ x).keep T.o t);have M:=ay ((h_ oV _ z).keep S.o t);have L:=ay q;have f:=ay (rR B O.o sL);obtain⟨P,r,R,H,_,_⟩:=(gT.rd q).form;rw[OM] at R H;subst R;clear q t g T S
 go_wp2_with fail;refine(f.o).mono ?_
 rintro e T ⟨m,rfl,g,t⟩;have J:=sK (gT.rd g);rw[U.o.1] at J;have S:=ay (V.o.trans (t.mono V.o.size));have K:=ay (gT.keep L.o t);have q:=ay (Bw T ((h_ oV _ z).keep M.o t) sL);rw[Qn] at q;clear g t f;have t:jf .u8 T (.slice P 5 r) ((km BV BV.new).take 5):=by
  obtain⟨A,j,e,_,I,G⟩:=(oN.1 (gT.rd K.o)).form;injection e with e1 e2 e3;subst e1;subst e3;have f:ao ((km BV BV.new).take 5)=5:=by rw[aU,OM];rfl
  have g:=iA.jj (c:=r) (by rw[f];omega) I (G.take 5)
  rw[f] at g;exact oN.2 g
 have g:=sK t;rw[U.o.2] at g;have f:(5:Int)<=(r:Int):=aa
 clear t
 go_wp2_with fail;refine(q.o).mono ?_
 rintro e t ⟨rfl,rfl⟩
 go_wp2
 go_ret;exact⟨rfl,S.o⟩
end D
end Go.Proofs.YtdicblkhpcphfaaGreat
