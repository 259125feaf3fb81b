/- Parts of a proof: what its theorem reaches, words cut short. No condition of its own. -/
import Derived.Test.YtilcnjbpmoijmaaGreatPs03
import Derived.Test.YtilcnjbpmoijmaaGreatPs05
import Derived.Test.YtilcnjbpmoijmaaGreatProg
set_option maxRecDepth 100000
set_option maxHeartbeats 16000000
set_option linter.unusedVariables false
set_option linter.unusedSimpArgs false
namespace Go.Proofs.YtilcnjbpmoijmaaGreat.D
open Go.RowKit Go.Lib
def u32E:Lie Int where
 k:=1
 t:=79
 enc x:=[.int .u32 x]
 len:=fun _=>rfl
 one:=fun x u hu=>by simp at hu;subst hu;rfl
abbrev slU(g n c:Nat):Value:=.slice (some ⟨g,0,none⟩) n c
def UAt(g n c base:Nat)(w:World):Prop:=∃l:List Int,l.length=n/\OwnE u32E base w (slU g n c) l
section
variable {g n c base : Nat} {w w' : World}
theorem UAt.lt(h:UAt g n c base w):g<w.heap.size:=by
 obtain⟨l,_,h⟩:=h
 exact(h.lt g rfl).2
theorem UAt.at(h:UAt g n c base w){j:Nat}(hj:j<n):∃z:Int,w.cell? ⟨g,j,none⟩=some (.int .u32 z):=by
 obtain⟨l,hl,h⟩:=h
 have e:=h.cellAt (j:=j) (by omega) 0 (by decide)
 rw[show j * u32E.k+0=j by show j * 1+0=j;omega] at e
 exact⟨_,e⟩
theorem UAt.fz(h:UAt g n c base w)(j:Nat):w.frozen? ⟨g,j,none⟩=false:=by
 obtain⟨l,_,h⟩:=h
 exact h.frozenAt j
theorem UAt.put(h:UAt g n c base w){j:Nat}(hj:j<n)(z:Int):UAt g n c base (w.setCell ⟨g,j,none⟩ (.int .u32 z)):=by
 obtain⟨l,hl,h⟩:=h
 have e:=h.set_ j (by omega) z
 rw[show j * u32E.k=j by show j * 1=j;omega] at e
 exact⟨_,by rw[List.length_set];exact hl,e⟩
theorem UAt.stay(h:UAt g n c base w)(hk:w'.heap[g]?=w.heap[g]?):UAt g n c base w':=by
 obtain⟨l,hl,h⟩:=h
 exact⟨l,hl,h.stay fun k e=>by cases e;exact hk⟩
theorem UAt.drew(h:UAt g n c base w):UAt g n c base w.drew:=h
theorem UAt.drewN(h:UAt g n c base w)(k:Nat):UAt g n c base (w.drewN k):=h
theorem UAt.keep(h:UAt g n c base w)(hb:Below w.heap.size w w'):UAt g n c base w':=h.stay (hb.block g h.lt)
theorem UAt.touch{s:Nat}(h:UAt g n c base w)(ht:Touch (fun k=>k=s) w w')(hs:g≠s):UAt g n c base w':=h.stay (ht.block g h.lt hs)
end
def SwC(s m:Nat)(w:World):Prop:=∃k:Nat,k<=m/\Blk w s 3 #[.int .i64 k]
theorem isNaN_u(x:Int)(w:World):Calls Tryz.prog 257 #[.int .u32 x] w fun e w'=>e=.returned (.bool false)/\w=w':=by
 go_enter Tryz.func257,Tryz.ntmps257
 go_wp2_with fail
 go_ret
 exact⟨by simp,rfl⟩
theorem less_u(x y:Int)(w:World):Calls Tryz.prog 191 #[.int .u32 x,.int .u32 y] w fun e w'=>e=.returned (.bool (decide (x<y)))/\w=w':=by
 obtain⟨d,hd⟩:∃d,decide (x<y)=d:=⟨_,rfl⟩
 rw[hd]
 go_enter Tryz.func191,Tryz.ntmps191
 go_wp2_with fail
 refine(isNaN_u x w).mono ?_
 rintro e w1 ⟨rfl,rfl⟩
 go_wp2_with fail
 go_ret
 exact⟨by simp,rfl⟩
section
variable {g n c base : Nat}
theorem order2_u{a b s m:Nat}(ha:a<n)(hb:b<n)(hm:m<=100)(w:World)(h:UAt g n c base w)(hs:SwC s m w)(hn:n<=1099511627776) :
 Calls Tryz.prog 327 #[slU g n c,.int .i64 a,.int .i64 b,.pointer (some ⟨s,0,none⟩)] w fun e w'=>∃x y:Nat,e=.returned (.tuple #[.int .i64 x,.int .i64 y])/\((x=a/\y=b)\/(x=b/\y=a))/\SwC s (m+1) w'/\Touch (fun k=>k=s) w w':=by
 obtain⟨k,hk,hB⟩:=hs
 have HB:=Lib.hid hB
 obtain⟨y,hy⟩:=h.at ha
 obtain⟨x,hx⟩:=h.at hb
 have a0:(0:Int)<=a:=by omega
 have b0:(0:Int)<=b:=by omega
 have a1:(a:Int)<n:=by omega
 have b1:(b:Int)<n:=by omega
 have s0:=hB.cell 0
 have f0:=hB.frozen 0
 simp only[List.getElem?_toArray,List.getElem?_cons_zero] at s0
 have ek:IntKind.i64.wrap ((k:Int)+1)=(k:Int)+1:=IntWalk.i64_in _ (by omega)
 have EK:=Lib.hid ek
 have HX:=Lib.hid hx
 have HY:=Lib.hid hy
 clear h hB ek hx hy
 go_enter Tryz.func327,Tryz.ntmps327
 by_cases hxy:x<y
 ·go_wp2_with fail
  refine plA (fun w'=>w'=w.drew) (plr 0 8 (ple 8 [])) (rfl) ?_
  iterate 8 refine plR (h:=fun w' hS'=>by subst hS';have k0:w.drew.cell? ⟨g,b,none⟩=_:=HX.out;have k1:w.drew.cell? ⟨g,a,none⟩=_:=HY.out;go_simp;exact⟨rfl,rfl⟩) ?_
  refine plD fun K hK=>?_
  go_simp
  refine(less_u _ _ _).mono ?_
  rintro e w3 ⟨rfl,rfl⟩
  refine hK _ _ (rfl) ?_
  clear hK K
  refine wpPlan_nil ?_
  have ek:=EK.out
  go_wp2_with fail
  refine bodyPost_ret (by simp[results,Tryz.results327,go_sem, *];try rfl) rfl ?_
  exact⟨b,a,rfl,.inr ⟨rfl,rfl⟩,⟨k+1,by omega,HB.out.set_ 0 _⟩,((Touch.refl (fun k=>k=s) w).setCell (p:=⟨s,0,none⟩) (.inl rfl) _).drew⟩
 ·go_wp2_with fail
  refine plA (fun w'=>w'=w.drew) (plr 0 8 (ple 8 [])) (rfl) ?_
  iterate 8 refine plR (h:=fun w' hS'=>by subst hS';have k0:w.drew.cell? ⟨g,b,none⟩=_:=HX.out;have k1:w.drew.cell? ⟨g,a,none⟩=_:=HY.out;go_simp;exact⟨rfl,rfl⟩) ?_
  refine plD fun K hK=>?_
  go_simp
  refine(less_u _ _ _).mono ?_
  rintro e w3 ⟨rfl,rfl⟩
  refine hK _ _ (rfl) ?_
  clear hK K
  refine wpPlan_nil ?_
  go_wp2_with fail
  refine bodyPost_ret (by simp[results,Tryz.results327,go_sem, *];try rfl) rfl ?_
  exact⟨a,b,rfl,.inl ⟨rfl,rfl⟩,⟨k,by omega,HB.out⟩,(Touch.refl _ w).drew⟩
theorem median_u{a b d s m:Nat}(ha:a<n)(hb:b<n)(hd:d<n)(hm:m<=90)(w:World)(h:UAt g n c base w)(hs:SwC s m w)(hn:n<=1099511627776)(hg:g≠s) :
 Calls Tryz.prog 256 #[slU g n c,.int .i64 a,.int .i64 b,.int .i64 d,.pointer (some ⟨s,0,none⟩)] w fun e w'=>∃x:Nat,e=.returned (.int .i64 x)/\(x=a\/x=b\/x=d)/\SwC s (m+3) w'/\Touch (fun k=>k=s) w w':=by
 have C1:=Lib.hid (order2_u ha hb (by omega) w h hs hn)
 have C2:=Lib.hid (fun(x y m':Nat) (hx:x<n) (hy:y<n) (hm':m'<=100) w' (h':UAt g n c base w') (hs':SwC s m' w')=>order2_u hx hy hm' w' h' hs' hn)
 have HU:=Lib.hid h
 clear h hs
 go_enter Tryz.func256,Tryz.ntmps256
 go_wp2_with fail
 refine(C1.out).mono ?_
 rintro e w1 ⟨x1,y1,rfl,hxy,hs1,ht1⟩
 have U1:=HU.out.touch ht1 hg
 have D2:=Lib.hid (C2.out y1 d (m+1) (by rcases hxy with⟨rfl,rfl⟩|⟨rfl,rfl⟩<;>assumption) hd (by omega) w1 U1 hs1)
 have XY:=Lib.hid hxy
 have T1:=Lib.hid ht1
 have V1:=Lib.hid U1
 clear hxy hs1 ht1 U1 C1
 go_wp2_with fail
 refine(D2.out).mono ?_
 rintro e w2 ⟨x2,y2,rfl,hxy2,hs2,ht2⟩
 have U2:=V1.out.touch ht2 hg
 have D3:=Lib.hid (C2.out x1 x2 (m+1+1) (by rcases XY.out with⟨rfl,rfl⟩|⟨rfl,rfl⟩<;>assumption) (by rcases XY.out with⟨rfl,rfl⟩|⟨rfl,rfl⟩<;>rcases hxy2 with⟨rfl,rfl⟩|⟨rfl,rfl⟩<;>assumption) (by omega) w2 U2 hs2)
 have XZ:=Lib.hid hxy2
 have T2:=Lib.hid (T1.out.trans ht2 (fun _ e=>.inl e))
 clear hxy2 hs2 ht2 U2 D2
 go_wp2_with fail
 refine(D3.out).mono ?_
 rintro e w3 ⟨x3,y3,rfl,hxy3,hs3,ht3⟩
 have X3:=Lib.hid hxy3
 have S3:=Lib.hid hs3
 have T3:=Lib.hid (T2.out.trans ht3 (fun _ e=>.inl e))
 clear hxy3 hs3 ht3 D3
 go_wp2_with fail
 go_ret
 refine⟨y3,rfl,?_,S3.out,T3.out⟩
 have h1:=XY.out
 have h2:=XZ.out
 have h3:=X3.out
 omega
theorem adjacent_u{a s m:Nat}(ha:a+1<n)(h0:1<=a)(hm:m<=90)(w:World)(h:UAt g n c base w)(hs:SwC s m w)(hn:n<=1099511627776)(hg:g≠s) :
 Calls Tryz.prog 255 #[slU g n c,.int .i64 a,.pointer (some ⟨s,0,none⟩)] w fun e w'=>∃x:Nat,e=.returned (.int .i64 x)/\(x=a - 1\/x=a\/x=a+1)/\SwC s (m+3) w'/\Touch (fun k=>k=s) w w':=by
 have C1:=median_u (a:=a - 1) (b:=a) (d:=a+1) (by omega) (by omega) (by omega) hm w h hs hn hg
 have e1:IntKind.i64.wrap ((a:Int) - 1)=((a - 1:Nat):Int):=by rw[IntWalk.i64_in _ (by omega)];omega
 have e2:IntKind.i64.wrap ((a:Int)+1)=((a+1:Nat):Int):=IntWalk.i64_in _ (by omega)
 have C1:=Lib.hid C1
 clear h hs
 go_enter Tryz.func255,Tryz.ntmps255
 go_wp2_with fail
 refine(C1.out).mono ?_
 rintro e w1 ⟨x,rfl,hx,hs1,ht1⟩
 go_wp2_with fail
 go_ret
 exact⟨x,rfl,hx,hs1,ht1⟩
end
end Go.Proofs.YtilcnjbpmoijmaaGreat.D
