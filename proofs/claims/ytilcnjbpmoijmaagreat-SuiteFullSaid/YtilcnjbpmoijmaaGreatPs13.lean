/- Parts of a proof: what its theorem reaches, words cut short. No condition of its own. -/
import Derived.Test.YtilcnjbpmoijmaaGreatPs12
import Derived.ProofKit
import Derived.OpenShut
import Derived.Carry
import Derived.ChangeSame
import Derived.Laws.EntriesVeiled
import Derived.Laws.Tables
import Derived.Shelf.Spec.SlicesGrow
import Derived.Test.YtilcnjbpmoijmaaGreatPs05
set_option maxRecDepth 100000
set_option maxHeartbeats 16000000
set_option linter.unusedVariables false
set_option linter.unusedSimpArgs false
namespace Go.Proofs.YtilcnjbpmoijmaaGreat
open Go.RowKit Go.Lib
theorem wmul_any(x y:Int)(w:World)(x0:0<=x)(x1:x<18446744073709551616)(y0:0<=y)(y1:y<18446744073709551616) :
 Calls Tryz.prog 352 #[.int .u64 x,.int .u64 y] w fun e w'=>e=.returned (.agg #[.int .u64 (x * y / 18446744073709551616),.int .u64 (x * y % 18446744073709551616)])/\Below w.heap.size w w':=by
 go_enter Tryz.func352,Tryz.ntmps352
 go_wp2_with (go_at_call 418;refine(mul64_any _ _ _ x0 x1 y0 y1).mono ?_;rintro e w' ⟨rfl,rfl⟩)
 exact bodyPost_ret (v:=.agg #[.int .u64 (x * y / 18446744073709551616),.int .u64 (x * y % 18446744073709551616)]) (by simp[results,Tryz.results352,go_sem]) rfl ⟨rfl,(Below.refl _ _).alloc (Nat.le_refl _) _⟩
theorem wdiv_eqs(h l d:Int)(l0:0<=l)(l1:l<18446744073709551616)(d0:0<d) :
 (h * 18446744073709551616+l) / d / 18446744073709551616=h / d/\(h * 18446744073709551616+l) / d % 18446744073709551616=(h % d * 18446744073709551616+l) / d /\
 (h * 18446744073709551616+l) % d=(h % d * 18446744073709551616+l) % d:=by
 have h3:=Int.mul_ediv_add_emod h d
 have h4:=Int.emod_nonneg h (show d≠0 by omega)
 have h5:=Int.emod_lt_of_pos h d0
 generalize h / d=k at *
 generalize h % d=m at *
 have e1:h * 18446744073709551616+l=(m * 18446744073709551616+l)+d * (k * 18446744073709551616):=by
  have:d * (k * 18446744073709551616)=d * k * 18446744073709551616:=by rw[Int.mul_assoc]
  omega
 have q0:0<=(m * 18446744073709551616+l) / d:=Int.ediv_nonneg (by omega) (by omega)
 have q1:(m * 18446744073709551616+l) / d<18446744073709551616:=Int.ediv_lt_of_lt_mul (by omega) (by omega)
 rw[e1,Int.add_mul_ediv_left _ _ (by omega),Int.add_mul_emod_self_left]
 refine⟨by omega,by omega,rfl⟩
theorem wdiv_any(h l d:Int)(w:World)(h0:0<=h)(h1:h<18446744073709551616)(l0:0<=l)(l1:l<18446744073709551616)(d0:0<d)(d1:d<18446744073709551616) :
 Calls Tryz.prog 389 #[.agg #[.int .u64 h,.int .u64 l],.int .u64 d] w fun e w'=>e=.returned (.tuple #[.agg #[.int .u64 ((h * 18446744073709551616+l) / d / 18446744073709551616),.int .u64 ((h * 18446744073709551616+l) / d % 18446744073709551616)],.int .u64 ((h * 18446744073709551616+l) % d),.int .i64 0])/\Below w.heap.size w w':=by
 have hd:(d == 0)=false:=by simp;omega
 go_enter Tryz.func389,Tryz.ntmps389
 go_wp2
 go_region
 all_goals
  go_wp2_with (go_at_call 433;refine(div64_any _ _ _ _ (Int.emod_nonneg _ (by omega)) (Int.emod_lt_of_pos _ d0) l0 l1 d1).mono ?_;rintro e w1 ⟨rfl,hb1⟩;have⟨hc1,hf1⟩:=bcell hb1;have hz1:=hb1.size;try simp only[World.size_alloc,World.size_setCell,World.size_drew,World.size_drewN] at hz1)
  refine bodyPost_ret (by simp[results,Tryz.results389,go_sem, *];try rfl) rfl ?_
  obtain⟨e1,e2,e3⟩:=wdiv_eqs h l d l0 l1 d0
  rw[e1,e2,e3]
  exact⟨rfl,by(repeat' (first|(with_reducible exact Below.refl _ _)|(with_reducible refine Below.alloc ?_ ?_ _)|(with_reducible refine Below.drew ?_)|(with_reducible refine below_drewN ?_ _)|(with_reducible refine Below.setCell ?_ ?_ _)|(with_reducible refine below_of (by assumption) ?_ ?_)|go_size))⟩
theorem mul_lt128{a b:Int}(a0:0<=a)(a1:a<18446744073709551616)(b0:0<=b)(b1:b<18446744073709551616):0<=a * b/\a * b<340282366920938463463374607431768211456:=by
 have h1:a * b<=18446744073709551615 * b:=Int.mul_le_mul_of_nonneg_right (by omega) b0
 exact⟨Int.mul_nonneg a0 b0,by omega⟩
theorem wdiv_small(X d:Int)(w:World)(x0:0<=X)(x1:X<340282366920938463463374607431768211456)(d0:0<d)(d1:d<18446744073709551616)(hq:X / d<18446744073709551616) :
 Calls Tryz.prog 389 #[.agg #[.int .u64 (X / 18446744073709551616),.int .u64 (X % 18446744073709551616)],.int .u64 d] w fun e w'=>e=.returned (.tuple #[.agg #[.int .u64 0,.int .u64 (X / d)],.int .u64 (X % d),.int .i64 0])/\Below w.heap.size w w':=by
 have q0:0<=X / d:=Int.ediv_nonneg x0 (by omega)
 have h:=wdiv_any (X / 18446744073709551616) (X % 18446744073709551616) d w (by omega) (by omega) (by omega) (by omega) d0 d1
 rw[show X / 18446744073709551616 * 18446744073709551616+X % 18446744073709551616=X by omega,show X / d / 18446744073709551616=0 by omega,show X / d % 18446744073709551616=X / d by omega] at h
 exact h
theorem muldiv_any(a b d:Int)(w:World)(a0:0<=a)(a1:a<18446744073709551616)(b0:0<=b)(b1:b<18446744073709551616)(d0:0<d)(d1:d<18446744073709551616)(hq:a * b / d<18446744073709551616) :
 Calls Tryz.prog 321 #[.int .u64 a,.int .u64 b,.int .u64 d] w fun e w'=>e=.returned (.tuple #[.int .u64 (a * b / d),.int .u64 (a * b % d),.int .i64 0])/\Below w.heap.size w w':=by
 obtain⟨m0,m1⟩:=mul_lt128 a0 a1 b0 b1
 go_enter Tryz.func321,Tryz.ntmps321
 go_wp2_with (first|(go_at_call 352;refine(wmul_any _ _ _ a0 a1 b0 b1).mono ?_;rintro e w1 ⟨rfl,hb1⟩;have⟨hc1,hf1⟩:=bcell hb1;have hz1:=hb1.size;try simp only[World.size_alloc,World.size_setCell,World.size_drew,World.size_drewN] at hz1)|(go_at_call 389;refine(wdiv_small _ _ _ m0 m1 d0 d1 hq).mono ?_;rintro e w2 ⟨rfl,hb2⟩;have⟨hc2,hf2⟩:=bcell hb2;have hz2:=hb2.size;try simp only[World.size_alloc,World.size_setCell,World.size_drew,World.size_drewN] at hz2))
 all_goals (go_ret3;exact⟨rfl,by(repeat' (first|(with_reducible exact Below.refl _ _)|(with_reducible refine Below.alloc ?_ ?_ _)|(with_reducible refine Below.drew ?_)|(with_reducible refine below_drewN ?_ _)|(with_reducible refine Below.setCell ?_ ?_ _)|(with_reducible refine below_of (by assumption) ?_ ?_)|go_size))⟩)
theorem rcheck_any(num den:Int)(w:World) :
 Calls Tryz.prog 428 #[.int .u64 num,.int .u64 den] w fun e w'=>e=.returned (.int .i64 (if den=0\/den<num then 7 else 0))/\w=w':=by
 by_cases h:den=0\/den<num
 ·rw[if_pos h]
  have hd:((den == 0) || decide (den<num))=true:=by simpa using h
  go_enter Tryz.func428,Tryz.ntmps428
  go_wp2
  all_goals (go_ret;exact⟨rfl,rfl⟩)
 ·rw[if_neg h]
  have hd:(den == 0)=false:=by simp;omega
  go_enter Tryz.func428,Tryz.ntmps428
  go_wp2
  all_goals (go_ret;exact⟨rfl,rfl⟩)
open Go.RowKit
namespace St
end St
open Go.RowKit Go.ChangeShapes Go.WideShapes
section
variable {H : Type} {enc : TypeId × Value -> H} {P : Program} {w : World} {base : Nat} {held : Bool}
theorem trodAll_stays(hl:laidOutB P=true){W W':World}(hb:Below W.heap.size W W'){sp:Nat->Bool}:∀{ts:List TypeId} {vs:List Value} {ds:List (DataW H)} {ps:List MemPlace},
 (∀t∈ts,P.readableRec t=true/\t<P.types.size)->DataW.TrodAll enc P W 0 (fun _=>true) true ts vs ds ps->(∀x∈ps,x.block<W.heap.size)->(∀x∈ps,sp x.block=true)->DataW.TrodAll enc P W' 0 sp true ts vs ds ps
 | [],_,_,_,_,h,_,_=>by
  obtain⟨rfl,rfl,rfl⟩:=trodAll_nil h
  exact trodAll_mk0
 | t::ts,_,_,_,hr,h,hlt,hsp=>by
  obtain⟨v,vs1,d,ds1,a,b,rfl,rfl,rfl,h1,h2⟩:=trodAll_cons h
  obtain⟨r1,r2⟩:=hr t (List.mem_cons_self ..)
  refine trodAll_cons_mk (WideElems.Trod_stays hl r1 r2 h1 (fun x hx=>hb.same (hlt x (by simp[hx]))) (fun x hx=>hsp x (by simp[hx]))) ?_
  exact trodAll_stays hl hb (fun t ht=>hr t (List.mem_cons_of_mem _ ht)) h2 (fun x hx=>hlt x (by simp[hx])) (fun x hx=>hsp x (by simp[hx]))
end
section
variable {H : Type} {enc : TypeId × Value -> H} {P : Program}
theorem law_post{f:Func}{s:ChangeSpec}{fresh handsOn again:Bool}{W W':World}{args:Array Value}{ds:List (DataW H)}{before:List MemPlace}{t:TypeId}
 (hl:laidOutB P=true) (hr:(f.params.toList.all fun t=>P.readableRec t && decide (t<P.types.size))=true) (hv:s.vars=[]) (hrt:f.resultTypes=#[t]) (ht:P.underlying t=some .bool)
 (hW:DataW.Whole enc P f.params.toList s.vars false W args.toList ds [] before) (hsp:s.fn H ds={results:=[.lit (.bool true)],args:=ds}) (hb:Below W.heap.size W W') :
 s.post enc P f false fresh handsOn again W args (.bool true) W':=by
 have hlt:∀p∈before,p.block<W.heap.size:=fun p hp=>hW.lt p hp
 have hold:∀p∈before,(fun b=>decide (b<W.heap.size)) p.block=true:=fun p hp=>by simpa using hlt p hp
 have hW':=hW
 obtain⟨p,q,hA,hV,rfl,hz,hn⟩:=hW
 have hr':∀t∈f.params.toList,P.readableRec t=true/\t<P.types.size:=fun t ht=>by
  have:=List.all_eq_true.1 hr t ht
  simpa using this
 rw[hv] at hV
 obtain⟨_,rfl⟩:=trodVars_none hV
 have hlt':∀x∈p,x.block<W.heap.size:=fun x hx=>hlt x (by simp[hx])
 have hargs:∀sp:Nat->Bool,(∀x∈p,sp x.block=true)->DataW.TrodAll enc P W' 0 sp true f.params.toList args.toList (s.fn H (ds++[])).args p:=fun sp hsp2=>by
  rw[List.append_nil,hsp]
  exact trodAll_stays hl hb hr' hA hlt' hsp2
 have hres:∀(b:Nat) (sp:Nat->Bool) (hd:Bool),DataW.TrodAll enc P W' b sp hd f.resultTypes.toList ((Value.bool true).resultList f.resultTypes.size) (s.fn H (ds++[])).results []:=fun b sp hd=>by
  rw[List.append_nil,hsp,hrt]
  exact trodAll_cons_mk (shut_bool ht _) trodAll_mk0
 have hvars:∀sp:Nat->Bool,DataW.TrodVars enc P W' sp s.vars (s.fn H (ds++[])).vars []:=fun sp=>by
  rw[List.append_nil,hsp,hv]
  exact rfl
 refine⟨ds,[],p++[],[],p,[],hW',hres _ _ _,hargs _ (fun x hx=>by simpa using hlt' x hx),hvars _,World.keptBut_mono (fun x hx=>⟨hx,.inr (by simpa using hx)⟩) (hb.frame (·∈p++[])),fun _=>?_⟩
 refine⟨ok_one hrt rfl (okWide_bool_mk ht _),_,_,([]++p)++[],⟨[]++p,[],trodAll_append (hargs _ (fun _ _=>rfl)) (hres _ _ _),hvars _,rfl,?_,?_⟩,?_⟩
 ·intro b off hp
  have hin:MemPlace.cell b off∈p:=by simpa using hp
  rw[hb.frozen (hlt' _ hin)]
  exact hz b off (by simpa using hin)
 ·intro ha
  cases ha
 ·intro x hx _
  simpa using hx
end
open Go.RowKit Go.Lib
open Go.RowKit
open Go.RowKit Go.Lib
open Go.RowKit Go.Lib
open Go.RowKit Go.Lib
open Go.RowKit Go.Lib
open Go.RowKit Go.Lib
open Go.RowKit Go.Lib
open Go.RowKit Go.Lib
open Go.RowKit Go.Lib
open Go.RowKit Go.Lib
open Go.RowKit Go.Lib
open Go.RowKit Go.Lib
open Go.RowKit Go.Lib
open Go.RowKit Go.Lib
open Go.RowKit Go.Lib
end Go.Proofs.YtilcnjbpmoijmaaGreat
