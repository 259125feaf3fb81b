/- Parts of a proof: what its theorem reaches, words cut short. No condition of its own. -/
import Derived.Test.YtilcnjbpmoijmaaGreatPs24
set_option maxRecDepth 100000
set_option maxHeartbeats 16000000
set_option linter.unusedVariables false
set_option linter.unusedSimpArgs false
namespace Go.Proofs.YtilcnjbpmoijmaaGreat.K
open Go.RowKit
theorem and_one(m:Nat)(h:m<18446744073709551616):bits .and .u64 (m:Int) 1=((m % 2:Nat):Int):=by
 have h1:=bits_and_u64_nat m 1 h (by omega)
 rw[Nat.and_one_is_mod] at h1
 exact h1
structure AdAt(F:Nat->Prop)(w:World)(g k n led:Nat)(v:Int)(c:Nat)(L:LL)(j:Nat)(F1:Nat->Prop)(wr:World)(lv:Value)(vs:List Sv)(L1:LL):Prop where
 st:Kst F1 wr g k n led lv vs L1
 eq:addL L v c=putB (64 - j) j (c / 2 ^ j) L1 v
 srt:∀i,Srt (lvl L1 i)
 len:L1.length<=49
 cnt:cnt L1<=cnt L+j
 sub:∀k,F1 k->F k\/w.heap.size<=k
 sup:∀k,F k->F1 k
 touch:Touch F w wr
theorem putL_srt{L:LL}(h:∀i,Srt (lvl L i))(j:Nat)(vs:List Int):∀i,Srt (lvl (putL L j vs) i):=fun i=>by
 rw[lvl_put]
 split
 ·exact insL_srt (h _) _
 ·exact h i
theorem pkOk_add{L:LL}{led a:Nat}(h:PkOk (L,led,a))(v:Int)(c:Nat)(hc:wt L+c<=281474976710656)(hn:cnt L<=900000):PkOk (addL L v c,led,a):=by
 refine⟨?_,h.top.add v c,?_,?_,h.led⟩
 ·exact putB_keep (P:=fun L=>∀i,Srt (lvl L i)) (fun L h hp=>putL_srt hp h [v]) 64 0 c L h.srt
 ·show wt (addL L v c)<=_
  rw[addL_wt _ _ (by omega)];exact hc
 ·show cnt (addL L v c)<=_
  have:=addL_cnt L v c;omega
theorem add_zero(g:Nat)(v:Int)(q:Value)(w:World) :
 Calls Tryz.prog 124 #[.pointer (some ⟨g,0,none⟩),.int .i64 v,.int .u64 0,q] w fun e w'=>e=.returned (.int .i64 4)/\w=w':=by
 go_enter Tryz.func124,Tryz.ntmps124
 go_wp2_with fail
 go_ret
 exact⟨rfl,rfl⟩
open Go.RowKit
open Go.RowKit
theorem wtF_take_le(L:LL)(j:Nat):wtF 1 (L.take j)<=wt L:=by
 unfold wt
 conv=>rhs;rw[<-List.take_append_drop j L,wtF_append]
 omega
section
variable {F : Nat -> Prop} {g k n led : Nat} {lv : Value} {vs : List Sv} {L : LL}
theorem size_any(w:World)(hs:Kst F w g k n led lv vs L) :
 Calls Tryz.prog 101 #[.pointer (some ⟨g,0,none⟩)] w fun e w'=>e=.returned (.int .i64 (k:Nat))/\w=w':=by
 have c0:=hs.cell0
 clear hs
 go_enter Tryz.func101,Tryz.ntmps101
 go_wp2_with fail
 refine bodyPost_ret (by simp[results,Tryz.results101,go_sem, *];try rfl) rfl ?_
 exact⟨rfl,rfl⟩
end
open Go.RowKit
def LLR(w:World)(v:Value)(L:LL):Prop:=∃vs:List Sv,vs.length=L.length/\RdE slE w v vs/\∀i (h:i<vs.length),RdE i64E w (svV vs[i]) (lvl L i)
theorem LLR.keep{w w':World}{v:Value}{L:LL}(h:LLR w v L)(hb:Below w.heap.size w w'):LLR w' v L:=by
 obtain⟨vs,h1,h2,h3⟩:=h
 exact⟨vs,h1,h2.keep hb,fun i hi=>(h3 i hi).keep hb⟩
theorem StG.llr{t:TypeId}{a:Value}{rest:List Value}{F:Nat->Prop}{w:World}{g:Nat}{lv:Value}{vs:List Sv}{L:LL}(h:StG t a rest F w g lv vs L):LLR w lv L:=
 ⟨vs,h.lev.len,h.lev.row.rd,fun i hi=>(h.lev.each i hi).rd⟩
theorem LLR.form{w:World}{v:Value}{L:LL}(h:LLR w v L):∃A c,v=.slice A L.length c/\L.length<=c/\c<=9223372036854775807:=by
 obtain⟨vs,h1,h2,h3⟩:=h
 obtain⟨A,c,e,h4,h5,_⟩:=h2.form
 rw[h1] at e h4
 exact⟨A,c,e,h4,h5⟩
theorem LLR.at_{w:World}{A:Option Addr}{n c:Nat}{L:LL}(h:LLR w (.slice A n c) L){j:Nat}(hj:j<L.length) :
 ∃gl off sA sc,A=some ⟨gl,off,none⟩/\gl<w.heap.size/\w.cell? ⟨gl,off+j,none⟩=some (.slice sA (lvl L j).length sc)/\RdE i64E w (.slice sA (lvl L j).length sc) (lvl L j):=by
 obtain⟨vs,h1,h2,h3⟩:=h
 obtain⟨A',c',e,_,_,hf⟩:=h2.form
 injection e with e1 e2 e3
 subst e1
 obtain⟨gl,off,hA,hg,hc⟩:=hf.sl (j:=j) (by omega)
 have hr:=h3 j (by omega)
 obtain⟨s,hs⟩:∃s,vs[j]'(by omega)=s:=⟨_,rfl⟩
 rw[hs] at hr hc
 obtain⟨sA,sn,sc⟩:=s
 obtain⟨_,_,es,_,_,_⟩:=hr.form
 injection es with es1 es2 es3
 subst es2
 exact⟨gl,off,sA,sc,hA,hg,hc,hr⟩
open Go.RowKit
open Go.RowKit
theorem PkOk.lenL{L:LL}{led a:Nat}(h:PkOk (L,led,a)):L.length<=49:=h.len
theorem PkOk.cntL{L:LL}{led a:Nat}(h:PkOk (L,led,a)):Go.Proofs.YtilcnjbpmoijmaaGreat.K.cnt L<=1000000:=h.cnt
theorem PkOk.wtL{L:LL}{led a:Nat}(h:PkOk (L,led,a)):Go.Proofs.YtilcnjbpmoijmaaGreat.K.wt L<=281474976710656:=h.wt
end Go.Proofs.YtilcnjbpmoijmaaGreat.K
