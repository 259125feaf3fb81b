/- Parts. -/
import Derived.Test.YtdicblkhpcphfaaGreatPU37
set_option maxRecDepth 100000
set_option maxHeartbeats 0
set_option linter.all false
namespace Go.Proofs.YtdicblkhpcphfaaGreat
open Tryz Go.RowKit Go.Lib Go.Shelf
open _root_.List renaming length→ab0
open Go.IntKind renaming wrap→ad0
open _root_.Go renaming Calls→af4
open Tryz renaming prog→af5
namespace D
def IC(x:Nat)(w:World):af4 af5 13 #[aq x,.pointer none,.pointer none] w λe z=>e=.returned (af6 1)/\w=z:=by
 go_in;go_wp2;go_ret;exact⟨rfl,rfl⟩
def pU.K{W w w':World}{sp:ie}{N:Nat}{S:Nat->Wn}{X Y:Nat->Nat}{wb vb:Nat}(h:pU W sp N S X Y wb vb w)(z:af3 w w'):pU W sp N S X Y wb vb w':=
 ⟨h.duo.imp λ_ d=>d.K z,h.below.T (z.M h.below.size)⟩
def Fx(kind a b R:Nat)(v4:Value)(l:List zO)(W:World)(hk:kind<=255)(ha:a<=65535)(B:b<=65535)(hs:R<=255)(hl:vy W.heap.size W v4 l)(u:∀o∈l,o.fits):af4 af5 3 #[.int .u8 kind,.int .u16 a,.int .u16 b,.int .u8 R,v4] W (au W (.bool true)):=by
 obtain⟨hz,A,c,rfl,hc1,hc2,t⟩:=hl;have H:Hid (vy W.heap.size W (.slice A (ab0 l) c) l):=ax ⟨hz,A,c,rfl,hc1,hc2,t⟩;have HF:=ax u;have n:=Cp (kind:=kind) (a:=a) (b:=b) B;have M:=ax (λw=>zq kind a b w hk ha B);have⟨y,r⟩:=ar (zp kind a b);rw[r] at n M;obtain⟨z,s⟩:=n;have⟨N,p⟩:=ar (1+R % 5);have C:1<=N:=aa;have hN5:N<=5:=aa;have hn:(1:Int)+(R:Int) % 5=(N:Int):=aa;have x:=ax (rE W);have v:=ax (λw (h:af3 W w)=>rG w (H.o.K h));have I:=ax (λw=>tc z N w C aa);have Mk:=ax z;have Jj:=ax s;clear t u r z s p;have hnil:=λ(w:World) (g:Nat)=>Go.Lib.run_eql_slice_nil (P:=prog) w 26 41 (some (af7 g 0)) 2 2 0 0 underlying26;go_in;go_wp21;refine RX x.o ?_;intro w1 z;have T:=ax z;clear z x;go_wp21;refine(v.o w1 T.o).M ?_;rintro e w2 ⟨⟨g,rfl,t⟩,z⟩;have S:Hid (af3 W w2):=ax (T.o.T (z.M T.o.size));have HG:=ax t;clear z t v;cases g with
 | true=>
  go_wp2;refine ak ?_;exact⟨rfl,S.o⟩
 | false=>
  go_wp21;refine RX (M.o w2) ?_
  intro w3 x;have z:Hid (af3 W w3):=ax (S.o.T (x.M S.o.size));clear x M;go_wp21;try rw[hn]
  refine(I.o w3).M ?_;rintro e w4 ⟨X,Y,Ow,r,s,rfl,v,x⟩;have E:Hid (pU W y N (kI y l (λ_=>jM y N) 0) X Y r s w4):=ax ⟨⟨Ow,v.down z.o.size⟩,z.o.T (x.M z.o.size)⟩;clear v x I T S z;go_wp2;go_loopg [13] (ab0 l) (λq z wr=>∃i:Nat,q=ab0 l - i/\i<=ab0 l/\i<=25/\z=af6 (i:Int)/\Hid (pU W y N (kI y l (λ_=>jM y N) i) X Y r s wr))
  exact⟨0,aa,aa,aa,rfl,E⟩
  case round=>
   obtain⟨i,z,hi,hi2,rfl,v⟩:=hrel;have HQ:=ax z;clear z E;by_cases hgo:i<ab0 l/\i<25
   .obtain⟨V,h25⟩:=hgo
    have o:(i:Int)<(ab0 l:Int):=aa;have h2i:(i:Int)<25:=aa;obtain⟨g,U,cv,rfl,t,m,p,f,K,J,D⟩:=H.o.act V;have q:=ax (aB p (aB f (aB K (aB J D))));have u:Hid (kI y l (λ_=>jM y N) (i+1)=Pm y l[i] (kI y l (λ_=>jM y N) i)):=ax (by
     rw[kI,aT,aL V,br])
    have O:=ax (λz (x:pU W y N (kI y l (λ_=>jM y N) i) X Y r s z)=>x.act l[i] Mk.o Jj.o C (HF.o _ (aP V)) (m.K (aD _) x.below) (HG.o (by first|rfl|trivial) i aa V));rw[<-u.o] at O;obtain⟨_,_,_,L,h,lw,lv⟩:=v.o.win (i:=0) ab;obtain⟨_,_,_,k,q1,_,_⟩:=v.o.win (i:=1) ab;have d:=ax (aB L (aB h (aB k q1)));have Q:=ax (λz j (hj:j<2) (x:pU W y N (kI y l (λ_=>jM y N) (i+1)) X Y r s z)=>(show af4 af5 12 #[.pointer (some (af7 (X j) 0)),.pointer (some (af7 (Y j) 0))] z (λe G=>e=.returned (.bool true)/\af3 z G) by
     obtain⟨⟨F,h1⟩,⟨G,h2⟩,h3,_⟩:=x.win hj;exact zz z h1 h2 h3))
    clear p f K J D m L h k q1 u;generalize l[i].kd=k at *;generalize l[i].who=af2 at *;generalize l[i].v=ov at *;generalize l[i].n=h at *;go_upto_region 11 with fail;have Z:=ax (λ(z:World) (x:af3 W z/\z.cell? (af7 r 0)=some (.pointer (some (af7 (X 0) 0)))/\z.cell? (af7 s 0)=some (.pointer (some (af7 (Y 0) 0)))/\z.cell? (af7 r 1)=some (.pointer (some (af7 (X 1) 0)))/\z.cell? (af7 s 1)=some (.pointer (some (af7 (Y 1) 0))))=>(aB (x.2.1) (aB (x.2.2.1) (aB (x.2.2.2.1) (aB (x.2.2.2.2) (aB ((x.1.C (p:=af7 g (U+i * 5)) t).T q.o.1) (aB ((x.1.C (p:=af7 g (U+i * 5+1)) t).T q.o.2.1) (aB ((x.1.C (p:=af7 g (U+i * 5+2)) t).T q.o.2.2.1) (aB ((x.1.C (p:=af7 g (U+i * 5+3)) t).T q.o.2.2.2.1) ((x.1.C (p:=af7 g (U+i * 5+4)) t).T q.o.2.2.2.2))))))))));refine jh (λz=>af3 W z/\z.cell? (af7 r 0)=some (.pointer (some (af7 (X 0) 0)))/\z.cell? (af7 s 0)=some (.pointer (some (af7 (Y 0) 0)))/\z.cell? (af7 r 1)=some (.pointer (some (af7 (X 1) 0)))/\z.cell? (af7 s 1)=some (.pointer (some (af7 (Y 1) 0)))) (hQ 0 6 (ik 6 (hQ 7 8 (ik 15 (hQ 16 9 (ik 25 (hQ 26 2 []))))))) (⟨v.o.below.drew,d.o.1,d.o.2.1,d.o.2.2.1,d.o.2.2.2⟩) ?_;iterate 6 refine ib ?_
    refine iz λK u=>?_;go_simp;refine RX (O.o _ (v.o.K (aC _ _).drew)) ?_;intro J x;have z:=ax x;have G:=ax (aB z.o.below (aB (z.o.win (i:=0) ab).2.2.2.1 (aB (z.o.win (i:=0) ab).2.2.2.2.1 (aB (z.o.win (i:=1) ab).2.2.2.1 (z.o.win (i:=1) ab).2.2.2.2.1))));clear x;refine u _ _ (G.o) ?_;iterate 8 refine ib ?_
    refine iz λK u=>?_;go_simp;refine RX (Q.o J 0 ab z.o) ?_;intro m f;have x:=ax (z.o.K f);have F:=ax (aB x.o.below (aB (x.o.win (i:=0) ab).2.2.2.1 (aB (x.o.win (i:=0) ab).2.2.2.2.1 (aB (x.o.win (i:=1) ab).2.2.2.1 (x.o.win (i:=1) ab).2.2.2.2.1))));clear f;refine u _ _ (F.o) ?_;iterate 9 refine ib ?_
    refine iz λK u=>?_;go_simp;refine RX (Q.o m 1 ab x.o) ?_;intro w8 j;have f:=ax (x.o.K j);have D:=ax (aB f.o.below (aB (f.o.win (i:=0) ab).2.2.2.1 (aB (f.o.win (i:=0) ab).2.2.2.2.1 (aB (f.o.win (i:=1) ab).2.2.2.1 (f.o.win (i:=1) ab).2.2.2.2.1))));clear j;refine u _ _ (D.o) ?_;iterate 2 refine ib ?_
    refine g4 ?_;try refine g6 ?_
    clear z x G F D O Q d q v;go_wp2;go_roundg (ab0 l - (i+1))
    exact⟨i+1,rfl,aa,aa,af,f⟩;have:=HQ.o;omega
   .obtain⟨_,_,_,L,_,lw,_⟩:=v.o.win (i:=0) ab
    have z:=ax (IC (X 0) wr);by_cases V:i<ab0 l
    .have o:(i:Int)<(ab0 l:Int):=aa
     have h2i:¬((i:Int)<25):=aa;go_wp21;refine Ix z.o ?_;go_wp2;refine ak ?_;exact⟨rfl,v.o.below⟩
    .have o:¬((i:Int)<(ab0 l:Int)):=aa
     go_wp21;refine Ix z.o ?_
     go_wp2;refine ak ?_;exact⟨rfl,v.o.below⟩
