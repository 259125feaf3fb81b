/- Parts of a proof: what its theorem reaches, words cut short. No condition of its own. -/
import Derived.Test.YtingnldfpokckaaGreatPm02
set_option maxRecDepth 100000
set_option maxHeartbeats 16000000
set_option linter.unusedVariables false
set_option linter.unusedSimpArgs false
namespace Go.Proofs.YtingnldfpokckaaGreat
open Go.RowKit Go.Lib
def cmpI(x y:Int):Int:=if x=y then 0 else if x<y then -1 else 1
theorem wmul_any(x y:Int)(w:World)(x0:0<=x)(x1:x<18446744073709551616)(y0:0<=y)(y1:y<18446744073709551616) :
 Calls Tryz.prog 300 #[.int .u64 x,.int .u64 y] w fun e w'=>e=.returned (.agg #[.int .u64 (x * y / 18446744073709551616),.int .u64 (x * y % 18446744073709551616)])/\Below w.heap.size w w':=by
 go_enter Tryz.func300,Tryz.ntmps300
 go_wp2_with (go_at_call 372;refine(mul64_any _ _ _ x0 x1 y0 y1).mono ?_;rintro e w' ⟨rfl,rfl⟩)
 exact bodyPost_ret (v:=.agg #[.int .u64 (x * y / 18446744073709551616),.int .u64 (x * y % 18446744073709551616)]) (by simp[results,Tryz.results300,go_sem]) rfl ⟨rfl,(Below.refl _ _).alloc (Nat.le_refl _) _⟩
theorem wcmp_any(a b c d:Int)(w:World)(b0:0<=b)(b1:b<18446744073709551616)(d0:0<=d)(d1:d<18446744073709551616) :
 Calls Tryz.prog 301 #[.agg #[.int .u64 a,.int .u64 b],.agg #[.int .u64 c,.int .u64 d]] w fun e w'=>e=.returned (.int .i64 (cmpI (a * 18446744073709551616+b) (c * 18446744073709551616+d)))/\Below w.heap.size w w':=by
 go_enter Tryz.func301,Tryz.ntmps301
 go_wp2
 all_goals (go_ret;refine⟨ret_int ?_,((Below.refl _ _).alloc (Nat.le_refl _) _).alloc (by simp) _⟩)
 all_goals (unfold cmpI;(repeat' split)<;>omega)
theorem wcmp_of(L R:Int)(w:World) :
 Calls Tryz.prog 301 #[.agg #[.int .u64 (L / 18446744073709551616),.int .u64 (L % 18446744073709551616)],.agg #[.int .u64 (R / 18446744073709551616),.int .u64 (R % 18446744073709551616)]] w fun e w'=>e=.returned (.int .i64 (cmpI L R))/\Below w.heap.size w w':=by
 have h:=wcmp_any (L / 18446744073709551616) (L % 18446744073709551616) (R / 18446744073709551616) (R % 18446744073709551616) w (by omega) (by omega) (by omega) (by omega)
 rw[show L / 18446744073709551616 * 18446744073709551616+L % 18446744073709551616=L by omega,show R / 18446744073709551616 * 18446744073709551616+R % 18446744073709551616=R by omega] at h
 exact h
theorem cmpI_le(L R:Int):(decide (cmpI L R<=0))=decide (L<=R):=by
 unfold cmpI
 by_cases h:L=R
 ·rw[if_pos h];simp;omega
 ·rw[if_neg h]
  by_cases h2:L<R
  ·rw[if_pos h2];simp;omega
  ·rw[if_neg h2];simp;omega
theorem wdiv_eqs(h l d:Int)(l0:0<=l)(l1:l<18446744073709551616)(d0:0<d) :
 (h * 18446744073709551616+l) / d / 18446744073709551616=h / d/\(h * 18446744073709551616+l) / d % 18446744073709551616=(h % d * 18446744073709551616+l) / d /\
 (h * 18446744073709551616+l) % d=(h % d * 18446744073709551616+l) % d:=by
 have h3:=Int.mul_ediv_add_emod h d
 have h4:=Int.emod_nonneg h (show d≠0 by omega)
 have h5:=Int.emod_lt_of_pos h d0
 generalize h / d=k at *
 generalize h % d=m at *
 have e1:h * 18446744073709551616+l=(m * 18446744073709551616+l)+d * (k * 18446744073709551616):=by
  have:d * (k * 18446744073709551616)=d * k * 18446744073709551616:=by rw[Int.mul_assoc]
  omega
 have q0:0<=(m * 18446744073709551616+l) / d:=Int.ediv_nonneg (by omega) (by omega)
 have q1:(m * 18446744073709551616+l) / d<18446744073709551616:=Int.ediv_lt_of_lt_mul (by omega) (by omega)
 rw[e1,Int.add_mul_ediv_left _ _ (by omega),Int.add_mul_emod_self_left]
 refine⟨by omega,by omega,rfl⟩
theorem wdiv_any(h l d:Int)(w:World)(h0:0<=h)(h1:h<18446744073709551616)(l0:0<=l)(l1:l<18446744073709551616)(d0:0<d)(d1:d<18446744073709551616) :
 Calls Tryz.prog 390 #[.agg #[.int .u64 h,.int .u64 l],.int .u64 d] w fun e w'=>e=.returned (.tuple #[.agg #[.int .u64 ((h * 18446744073709551616+l) / d / 18446744073709551616),.int .u64 ((h * 18446744073709551616+l) / d % 18446744073709551616)],.int .u64 ((h * 18446744073709551616+l) % d),.int .i64 0])/\Below w.heap.size w w':=by
 have hd:(d == 0)=false:=by simp;omega
 go_enter Tryz.func390,Tryz.ntmps390
 go_wp2
 go_region
 all_goals
  go_wp2_with (go_at_call 420;refine(div64_any _ _ _ _ (Int.emod_nonneg _ (by omega)) (Int.emod_lt_of_pos _ d0) l0 l1 d1).mono ?_;rintro e w1 ⟨rfl,hb1⟩;have⟨hc1,hf1⟩:=bcell hb1;have hz1:=hb1.size;try simp only[World.size_alloc,World.size_setCell,World.size_drew,World.size_drewN] at hz1)
  refine bodyPost_ret (by simp[results,Tryz.results390,go_sem, *];try rfl) rfl ?_
  obtain⟨e1,e2,e3⟩:=wdiv_eqs h l d l0 l1 d0
  rw[e1,e2,e3]
  exact⟨rfl,by(repeat' (first|(with_reducible exact Below.refl _ _)|(with_reducible refine Below.alloc ?_ ?_ _)|(with_reducible refine Below.drew ?_)|(with_reducible refine below_drewN ?_ _)|(with_reducible refine Below.setCell ?_ ?_ _)|(with_reducible refine below_of (by assumption) ?_ ?_)|go_size))⟩
theorem mul_lt128{a b:Int}(a0:0<=a)(a1:a<18446744073709551616)(b0:0<=b)(b1:b<18446744073709551616):0<=a * b/\a * b<340282366920938463463374607431768211456:=by
 have h1:a * b<=18446744073709551615 * b:=Int.mul_le_mul_of_nonneg_right (by omega) b0
 exact⟨Int.mul_nonneg a0 b0,by omega⟩
theorem wdiv_small(X d:Int)(w:World)(x0:0<=X)(x1:X<340282366920938463463374607431768211456)(d0:0<d)(d1:d<18446744073709551616)(hq:X / d<18446744073709551616) :
 Calls Tryz.prog 390 #[.agg #[.int .u64 (X / 18446744073709551616),.int .u64 (X % 18446744073709551616)],.int .u64 d] w fun e w'=>e=.returned (.tuple #[.agg #[.int .u64 0,.int .u64 (X / d)],.int .u64 (X % d),.int .i64 0])/\Below w.heap.size w w':=by
 have q0:0<=X / d:=Int.ediv_nonneg x0 (by omega)
 have h:=wdiv_any (X / 18446744073709551616) (X % 18446744073709551616) d w (by omega) (by omega) (by omega) (by omega) d0 d1
 rw[show X / 18446744073709551616 * 18446744073709551616+X % 18446744073709551616=X by omega,show X / d / 18446744073709551616=0 by omega,show X / d % 18446744073709551616=X / d by omega] at h
 exact h
theorem muldiv_any(a b d:Int)(w:World)(a0:0<=a)(a1:a<18446744073709551616)(b0:0<=b)(b1:b<18446744073709551616)(d0:0<d)(d1:d<18446744073709551616)(hq:a * b / d<18446744073709551616) :
 Calls Tryz.prog 328 #[.int .u64 a,.int .u64 b,.int .u64 d] w fun e w'=>e=.returned (.tuple #[.int .u64 (a * b / d),.int .u64 (a * b % d),.int .i64 0])/\Below w.heap.size w w':=by
 obtain⟨m0,m1⟩:=mul_lt128 a0 a1 b0 b1
 go_enter Tryz.func328,Tryz.ntmps328
 go_wp2_with (first|(go_at_call 300;refine(wmul_any _ _ _ a0 a1 b0 b1).mono ?_;rintro e w1 ⟨rfl,hb1⟩;have⟨hc1,hf1⟩:=bcell hb1;have hz1:=hb1.size;try simp only[World.size_alloc,World.size_setCell,World.size_drew,World.size_drewN] at hz1)|(go_at_call 390;refine(wdiv_small _ _ _ m0 m1 d0 d1 hq).mono ?_;rintro e w2 ⟨rfl,hb2⟩;have⟨hc2,hf2⟩:=bcell hb2;have hz2:=hb2.size;try simp only[World.size_alloc,World.size_setCell,World.size_drew,World.size_drewN] at hz2))
 all_goals (go_ret3;exact⟨rfl,by(repeat' (first|(with_reducible exact Below.refl _ _)|(with_reducible refine Below.alloc ?_ ?_ _)|(with_reducible refine Below.drew ?_)|(with_reducible refine below_drewN ?_ _)|(with_reducible refine Below.setCell ?_ ?_ _)|(with_reducible refine below_of (by assumption) ?_ ?_)|go_size))⟩)
theorem muldiv_le(a b d:Int)(w:World)(a0:0<=a)(a1:a<18446744073709551616)(b0:0<=b)(b1:b<=d)(d0:0<d)(d1:d<18446744073709551616) :
 Calls Tryz.prog 328 #[.int .u64 a,.int .u64 b,.int .u64 d] w fun e w'=>e=.returned (.tuple #[.int .u64 (a * b / d),.int .u64 (a * b % d),.int .i64 0])/\Below w.heap.size w w':=
 muldiv_any a b d w a0 a1 b0 (by omega) d0 d1 (Int.ediv_lt_of_lt_mul d0 (by have:a * b<=a * d:=Int.mul_le_mul_of_nonneg_left b1 a0;have:a * d<=18446744073709551615 * d:=Int.mul_le_mul_of_nonneg_right (by omega) (by omega);omega))
def lerpI(low high at_ of_:Int):Int:=low+(high - low) * at_ / of_
theorem lerpI_bd{low high x y:Int}(h:low<=high)(x0:0<=x)(xy:x<=y)(y0:0<y):low<=lerpI low high x y/\lerpI low high x y<=high:=by
 have h1:0<=(high - low) * x / y:=Int.ediv_nonneg (Int.mul_nonneg (by omega) x0) (by omega)
 have h2:(high - low) * x / y<=high - low:=by
  have h3:(high - low) * x<=(high - low) * y:=Int.mul_le_mul_of_nonneg_left xy (by omega)
  exact Int.ediv_le_of_le_mul y0 h3
 unfold lerpI
 omega
theorem lerp_any(low high x y:Int)(w:World)(l0:-9223372036854775808<=low)(lh:low<=high)(h1:high<=9223372036854775807)(x0:0<=x)(xy:x<=y)(y0:0<y)(y1:y<18446744073709551616) :
 Calls Tryz.prog 303 #[.int .i64 low,.int .i64 high,.int .u64 x,.int .u64 y] w fun e w'=>e=.returned (.tuple #[.int .i64 (lerpI low high x y),.int .i64 0])/\Below w.heap.size w w':=by
 have hy:(y == 0)=false:=by simp;omega
 have ew:IntKind.u64.wrap (IntKind.u64.wrap high - IntKind.u64.wrap low)=high - low:=by simp only[u64w];omega
 obtain⟨b1,b2⟩:=lerpI_bd lh x0 xy y0
 have f0:0<=(high - low) * x / y:=Int.ediv_nonneg (Int.mul_nonneg (by omega) x0) (by omega)
 have eF:wrap64 (IntKind.u64.wrap (IntKind.u64.wrap low+(high - low) * x / y))=lerpI low high x y:=by
  simp only[u64w,wrap64]
  unfold lerpI at *
  omega
 clear b1 b2
 go_enter Tryz.func303,Tryz.ntmps303
 go_wp2_with (first|(go_at_call 328;refine(muldiv_le (high - low) _ _ _ (by omega) (by omega) x0 xy y0 y1).mono ?_;rintro e w1 ⟨rfl,hb1⟩;have⟨hc1,hf1⟩:=bcell hb1;have hz1:=hb1.size;try simp only[World.size_alloc,World.size_setCell,World.size_drew,World.size_drewN] at hz1))
 go_ret2
 exact⟨congrArg (fun z=>Ending.returned (.tuple #[.int .i64 z,.int .i64 0])) eF,by(repeat' (first|(with_reducible exact Below.refl _ _)|(with_reducible refine Below.alloc ?_ ?_ _)|(with_reducible refine Below.drew ?_)|(with_reducible refine below_drewN ?_ _)|(with_reducible refine Below.setCell ?_ ?_ _)|(with_reducible refine below_of (by assumption) ?_ ?_)|go_size))⟩
theorem avg_any(m v n z:Int)(w:World)(m0:-9223372036854775808<=m)(mn:m<=n)(n1:n<=9223372036854775807)(v0:0<=v)(z0:0<z)(vz:v+z<18446744073709551616) :
 Calls Tryz.prog 237 #[.int .i64 m,.int .u64 v,.int .i64 n,.int .u64 z] w fun e w'=>e=.returned (.tuple #[.int .i64 (lerpI m n z (v+z)),.int .i64 0])/\Below w.heap.size w w':=by
 have ha:=add64_run v z 0 w v0 (by omega) (by omega) (by omega)
 have e1:(v+z+0) % 18446744073709551616=v+z:=by omega
 have e2:(v+z+0) / 18446744073709551616=0:=by omega
 have e3:(v+z == 0)=false:=by simp;omega
 rw[e1,e2] at ha
 clear e1 e2
 go_enter Tryz.func237,Tryz.ntmps237
 go_wp2_with (first|(go_at_call 303;refine(lerp_any _ _ _ _ _ m0 mn n1 (by omega) (by omega) (by omega) vz).mono ?_;rintro e w1 ⟨rfl,hb1⟩;have⟨hc1,hf1⟩:=bcell hb1;have hz1:=hb1.size;try simp only[World.size_alloc,World.size_setCell,World.size_drew,World.size_drewN] at hz1))
 go_ret2
 exact⟨rfl,by(repeat' (first|(with_reducible exact Below.refl _ _)|(with_reducible refine Below.alloc ?_ ?_ _)|(with_reducible refine Below.drew ?_)|(with_reducible refine below_drewN ?_ _)|(with_reducible refine Below.setCell ?_ ?_ _)|(with_reducible refine below_of (by assumption) ?_ ?_)|go_size))⟩
open Go.RowKit
theorem snocRec{α:Type}{motive:List α->Prop}(nil:motive [])(snoc:∀l x,motive l->motive (l++[x]))(l:List α):motive l:=by
 have h:∀n (l:List α),l.length=n->motive l:=by
  intro n
  induction n with
  | zero=>intro l hl;rw[List.eq_nil_of_length_eq_zero hl];exact nil
  | succ n ih=>
   intro l hl
   have hne:l≠[]:=by rintro rfl;simp at hl
   rw[<-List.dropLast_concat_getLast hne]
   exact snoc _ _ (ih _ (by simp[hl]))
 exact h _ l rfl
abbrev Mn:=Int × Int
def encM(m:Mn):List Value:=[.int .i64 m.1,.int .u64 m.2]
def cellsM(l:List Mn):List Value:=l.flatMap encM
theorem cellsM_length(l:List Mn):(cellsM l).length=l.length * 2:=by
 induction l with
 | nil=>rfl
 | cons m l ih=>simp only[cellsM,List.flatMap_cons,List.length_append,List.length_cons] at *;rw[ih];simp[encM];omega
theorem cellsM_append(a b:List Mn):cellsM (a++b)=cellsM a++cellsM b:=by simp[cellsM]
theorem cellsM_get0:∀(l:List Mn) (i:Nat) (h:i<l.length),(cellsM l)[i * 2]?=some (.int .i64 l[i].1)
 | m::l,0,_=>rfl
 | m::l,i+1,h=>by
  have:=cellsM_get0 l i (by simpa using h)
  rw[show(i+1) * 2=i * 2+2 by omega]
  simpa[cellsM,encM] using this
theorem cellsM_get1:∀(l:List Mn) (i:Nat) (h:i<l.length),(cellsM l)[i * 2+1]?=some (.int .u64 l[i].2)
 | m::l,0,_=>rfl
 | m::l,i+1,h=>by
  have:=cellsM_get1 l i (by simpa using h)
  rw[show(i+1) * 2+1=i * 2+1+2 by omega]
  simpa[cellsM,encM] using this
theorem cellsM_one(l:List Mn):∀u∈cellsM l,u.oneCell'=true:=by
 intro u hu
 obtain⟨m,_,hm⟩:=List.mem_flatMap.1 hu
 simp[encM] at hm
 rcases hm with rfl|rfl<;>rfl
theorem cellsM_drop(l:List Mn)(k:Nat):(cellsM l).drop (k * 2)=cellsM (l.drop k):=by
 induction k generalizing l with
 | zero=>simp
 | succ k ih=>
  cases l with
  | nil=>simp[cellsM]
  | cons m l=>
   rw[show(k+1) * 2=k * 2+2 by omega]
   have:=ih l
   simpa[cellsM,encM] using this
theorem cellsM_take(l:List Mn)(k:Nat):(cellsM l).take (k * 2)=cellsM (l.take k):=by
 induction k generalizing l with
 | zero=>simp[cellsM]
 | succ k ih=>
  cases l with
  | nil=>simp[cellsM]
  | cons m l=>
   rw[show(k+1) * 2=k * 2+2 by omega]
   have:=ih l
   simpa[cellsM,encM] using this
def RdM(w:World)(v:Value)(l:List Mn):Prop:=Rd 2 w v l.length (cellsM l)
theorem RdM.keep{w w':World}{v:Value}{l:List Mn}(h:RdM w v l)(hb:Below w.heap.size w w'):RdM w' v l:=Rd.keep h hb
def MForm(w:World)(A:Option Addr)(l:List Mn):Prop:=0<l.length->∃g off,A=some ⟨g,off,none⟩/\g<w.heap.size/\∀j,j<l.length * 2->w.cell? ⟨g,off+j,none⟩=(cellsM l)[j]?
theorem RdM.form{w:World}{v:Value}{l:List Mn}(h:RdM w v l):∃A c,v=.slice A l.length c/\l.length<=c/\c<=9223372036854775807/\MForm w A l:=by
 obtain⟨_,A,c,hv,h1,h2,h3⟩:=h
 exact⟨A,c,hv,h1,by unfold maxLen at h2;omega,h3⟩
theorem RdM.of_form{w:World}{A:Option Addr}{l:List Mn}{c:Nat}(h1:l.length<=c)(h2:c<=9223372036854775807)(h:MForm w A l):RdM w (.slice A l.length c) l:=
 ⟨cellsM_length l,A,c,rfl,h1,by unfold maxLen;omega,h⟩
theorem MForm.keep{w w':World}{A:Option Addr}{l:List Mn}(h:MForm w A l)(hb:Below w.heap.size w w'):MForm w' A l:=fun h0=>by
 obtain⟨g,off,hA,hg,hj⟩:=h h0
 exact⟨g,off,hA,Nat.lt_of_lt_of_le hg hb.size,fun j hj'=>(hb.cell (p:=⟨g,off+j,none⟩) hg).trans (hj j hj')⟩
theorem MForm.at_{w:World}{A:Option Addr}{l:List Mn}(h:MForm w A l){j:Nat}(hj:j<l.length) :
 ∃g off,A=some ⟨g,off,none⟩/\g<w.heap.size/\w.cell? ⟨g,off+j * 2,none⟩=some (.int .i64 l[j].1)/\w.cell? ⟨g,off+j * 2+1,none⟩=some (.int .u64 l[j].2):=by
 obtain⟨g,off,hA,hg,hc⟩:=h (by omega)
 refine⟨g,off,hA,hg,?_,?_⟩
 ·rw[hc (j * 2) (by omega),cellsM_get0 l j hj]
 ·rw[Nat.add_assoc,hc (j * 2+1) (by omega),cellsM_get1 l j hj]
theorem MForm.tail{w:World}{A:Option Addr}{l:List Mn}(h:MForm w A l){g off:Nat}(hA:A=some ⟨g,off,none⟩)(k:Nat):MForm w (some ⟨g,off+k * 2,none⟩) (l.drop k):=fun h0=>by
 rw[List.length_drop] at h0
 obtain⟨g',off',hA',hg,hc⟩:=h (by omega)
 rw[hA] at hA'
 injection hA' with hA'
 injection hA' with e1 e2
 subst e1;subst e2
 refine⟨g,_,rfl,hg,fun j hj=>?_⟩
 rw[List.length_drop] at hj
 rw[Nat.add_assoc,hc _ (by omega),<-cellsM_drop,List.getElem?_drop]
theorem MForm.head{w:World}{A:Option Addr}{l:List Mn}(h:MForm w A l)(k:Nat):MForm w A (l.take k):=fun h0=>by
 have hl:=List.length_take_le k l
 have hl':=List.length_take_le' k l
 obtain⟨g,off,hA,hg,hc⟩:=h (by omega)
 refine⟨g,off,hA,hg,fun j hj=>?_⟩
 rw[hc j (by omega),<-cellsM_take,List.getElem?_take,if_pos (by omega)]
theorem MForm.nil{w:World}{A:Option Addr}:MForm w A []:=fun h=>absurd h (by simp)
def OwnM(base:Nat)(w:World)(v:Value)(l:List Mn):Prop:=w.ownsRow base 141 2 v l.length (cellsM l)
theorem OwnM.rd{base:Nat}{w:World}{v:Value}{l:List Mn}(h:OwnM base w v l):RdM w v l:=Rd.of_own h
theorem OwnM.nil_(base:Nat)(w:World):OwnM base w (.slice none 0 0) []:=World.ownsRow_nil w base _ _
theorem OwnM.more{base base':Nat}{w:World}{v:Value}{l:List Mn}(h:OwnM base w v l)(hb:base'<=base):OwnM base' w v l:=by
 obtain⟨h1,h2⟩:=h
 refine⟨h1,?_⟩
 rcases h2 with h2|⟨g,cap,cur,e1,e2,r⟩
 ·exact .inl h2
 ·exact .inr ⟨g,cap,cur,e1,by omega,r⟩
theorem OwnM.stay{base:Nat}{w w':World}{v:Value}{l:List Mn}(h:OwnM base w v l)(hk:∀g,v.ownBlock=some g->w'.heap[g]?=w.heap[g]?):OwnM base w' v l:=by
 obtain⟨h1,h2⟩:=h
 refine⟨h1,?_⟩
 rcases h2 with h2|⟨g,cap,cur,rfl,e2,e3,r⟩
 ·exact .inl h2
 ·exact .inr ⟨g,cap,cur,rfl,e2,by rw[hk g rfl];exact e3,r⟩
theorem OwnM.lt{base:Nat}{w:World}{v:Value}{l:List Mn}(h:OwnM base w v l):∀g,v.ownBlock=some g->base<=g/\g<w.heap.size:=World.ownsRow.lt h
theorem OwnM.keep{base:Nat}{w w':World}{v:Value}{l:List Mn}(h:OwnM base w v l)(hb:Below w.heap.size w w'):OwnM base w' v l:=h.stay fun g hg=>hb.block g (h.lt g hg).2
theorem OwnM.drew{base:Nat}{w:World}{v:Value}{l:List Mn}(h:OwnM base w v l):OwnM base w.drew v l:=h
theorem OwnM.alloc{base:Nat}{w:World}{v:Value}{l:List Mn}(h:OwnM base w v l)(o:Obj):OwnM base (w.alloc o) v l:=World.ownsRow.alloc h o
theorem OwnM.far{base:Nat}{w:World}{v:Value}{l:List Mn}(h:OwnM base w v l){p:Addr}(hp:v.ownBlock≠some p.block)(u:Value):OwnM base (w.setCell p u) v l:=
 h.stay fun g hg=>Below.heap_setCell w p u g (fun e=>hp (by rw[hg,e]))
theorem OwnM.form{base:Nat}{w:World}{v:Value}{l:List Mn}(h:OwnM base w v l):∃A c,v=.slice A l.length c/\l.length<=c/\c<=9223372036854775807/\MForm w A l:=h.rd.form
theorem OwnM.pos{base:Nat}{w:World}{v:Value}{l:List Mn}(h:OwnM base w v l)(h0:0<l.length):∃g c,v=.slice (some ⟨g,0,none⟩) l.length c/\base<=g/\g<w.heap.size/\l.length<=c/\c<=9223372036854775807:=by
 rcases h.2 with⟨_,h2⟩|⟨g,cap,cur,rfl,e2,e3,e4,e5,_⟩
 ·omega
 ·exact⟨g,cap,rfl,e2,(h.lt g rfl).2,e4,by unfold maxLen at e5;omega⟩
theorem OwnM.at_{base g c:Nat}{w:World}{l:List Mn}(h:OwnM base w (.slice (some ⟨g,0,none⟩) l.length c) l){j:Nat}(hj:j<l.length) :
 w.cell? ⟨g,j * 2,none⟩=some (.int .i64 l[j].1)/\w.cell? ⟨g,j * 2+1,none⟩=some (.int .u64 l[j].2)/\w.frozen? ⟨g,j * 2,none⟩=false/\w.frozen? ⟨g,j * 2+1,none⟩=false:=by
 refine⟨?_,?_,World.ownsRow.frozenAt h _,World.ownsRow.frozenAt h _⟩
 ·rw[World.ownsRow.cellAt h _ (by omega),cellsM_get0 l j hj]
 ·rw[World.ownsRow.cellAt h _ (by omega),cellsM_get1 l j hj]
theorem RdM.one(w:World)(m:Mn):RdM (w.alloc (.cells #[.int .i64 m.1,.int .u64 m.2] 141)) (.slice (some ⟨w.heap.size,0,none⟩) 1 1) [m]:=by
 refine RdM.of_form (by simp) (by omega) (fun _=>⟨w.heap.size,0,rfl,by simp,fun j hj=>?_⟩)
 simp only[List.length_singleton] at hj
 have:j=0\/j=1:=by omega
 rcases this with rfl|rfl<;>simp[cellsM,encM,World.cell?_alloc_new]
theorem RdM.cut1{w:World}{g off c:Nat}{l:List Mn}(h1:0<l.length)(h2:l.length<=c)(h3:c<=9223372036854775807)(h:MForm w (some ⟨g,off,none⟩) l) :
 RdM w (.slice (if c=1 then some ⟨g,off,none⟩ else some ⟨g,off+2,none⟩) (l.length - 1) (c - 1)) (l.drop 1):=by
 by_cases hc:c=1
 ·rw[if_pos hc]
  have h0:l.drop 1=[]:=List.eq_nil_of_length_eq_zero (by rw[List.length_drop];omega)
  rw[h0,show l.length - 1=0 by omega]
  exact RdM.of_form (l:=[]) (by simp) (by omega) MForm.nil
 ·rw[if_neg hc]
  have:=RdM.of_form (c:=c - 1) (l:=l.drop 1) (by rw[List.length_drop];omega) (by omega) (h.tail rfl 1)
  rwa [List.length_drop] at this
def ins(x:Mn):List Mn->List Mn
 | []=>[x]
 | y::l=>if y.1<=x.1 then y::ins x l else x::y::l
def srt(l:List Mn):List Mn:=l.foldl (fun o x=>ins x o) []
def mrg:List Mn->List Mn->List Mn
 | [],b=>b
 | a,[]=>a
 | x::a,y::b=>if y.1<x.1 then y::mrg (x::a) b else x::mrg a (y::b)
theorem mrg_nil_right(a:List Mn):mrg a []=a:=by cases a<;>simp[mrg]
theorem mrg_nil_left(b:List Mn):mrg [] b=b:=by cases b<;>simp[mrg]
theorem mrg_step_b{xs ys:List Mn}(ha:0<xs.length)(hb:0<ys.length)(h:ys[0].1<xs[0].1):mrg xs ys=ys[0]::mrg xs (ys.drop 1):=by
 match xs,ys,ha,hb,h with
 | x::xs,y::ys,_,_,h=>simp only[List.getElem_cons_zero] at h;rw[mrg,if_pos h];rfl
theorem mrg_step_a{xs ys:List Mn}(ha:0<xs.length)(hb:0<ys.length)(h:¬ys[0].1<xs[0].1):mrg xs ys=xs[0]::mrg (xs.drop 1) ys:=by
 match xs,ys,ha,hb,h with
 | x::xs,y::ys,_,_,h=>simp only[List.getElem_cons_zero] at h;rw[mrg,if_neg h];rfl
theorem mrg_ins(x:Mn):∀s t:List Mn,mrg s (ins x t)=ins x (mrg s t)
 | [],t=>by simp[mrg]
 | y::s,[]=>by
  simp only[ins,mrg_nil_right]
  unfold mrg
  by_cases h:x.1<y.1
  ·rw[if_pos h,mrg_nil_right,if_neg (by omega)]
  ·rw[if_neg h,if_pos (by omega)]
   have:=mrg_ins x s []
   simp only[ins,mrg_nil_right] at this
   rw[this]
 | y::s,z::t=>by
  by_cases hz:z.1<=x.1
  ·have e:ins x (z::t)=z::ins x t:=by simp[ins,hz]
   rw[e]
   unfold mrg
   by_cases h:z.1<y.1
   ·rw[if_pos h,if_pos h,mrg_ins x (y::s) t]
    simp[ins,hz]
   ·rw[if_neg h,if_neg h]
    have:=mrg_ins x s (z::t)
    rw[e] at this
    rw[this]
    simp only[ins]
    rw[if_pos (show y.1<=x.1 by omega)]
  ·have e:ins x (z::t)=x::z::t:=by simp[ins,hz]
   rw[e]
   by_cases hx:x.1<y.1
   ·rw[mrg,if_pos hx]
    unfold mrg
    by_cases h:z.1<y.1
    ·rw[if_pos h];simp only[ins];rw[if_neg hz]
    ·rw[if_neg h];simp only[ins];rw[if_neg (by omega)]
   ·rw[mrg,if_neg hx]
    have:=mrg_ins x s (z::t)
    rw[e] at this
    rw[this]
    conv=>rhs;rw[mrg,if_neg (by omega)]
    simp only[ins]
    rw[if_pos (show y.1<=x.1 by omega)]
 termination_by s t=>s.length+t.length
theorem srt_snoc(l:List Mn)(x:Mn):srt (l++[x])=ins x (srt l):=by simp[srt]
theorem mrg_foldl(s:List Mn):∀b:List Mn,mrg s (srt b)=b.foldl (fun o x=>ins x o) s:=by
 intro b
 induction b using snocRec with
 | nil=>simp[srt,mrg_nil_right]
 | snoc b x ih=>rw[srt_snoc,mrg_ins,ih,List.foldl_append];rfl
theorem mrg_srt(a b:List Mn):mrg (srt a) (srt b)=srt (a++b):=by
 rw[mrg_foldl,srt,srt,List.foldl_append]
theorem ins_length(x:Mn)(l:List Mn):(ins x l).length=l.length+1:=by
 induction l with
 | nil=>rfl
 | cons y l ih=>simp only[ins];split<;>simp[ih]
theorem srt_length(l:List Mn):(srt l).length=l.length:=by
 induction l using snocRec with
 | nil=>rfl
 | snoc l x ih=>rw[srt_snoc,ins_length,ih];simp
theorem mem_ins(x:Mn)(l:List Mn)(m:Mn):m∈ins x l<->m=x\/m∈l:=by
 induction l with
 | nil=>simp[ins]
 | cons y l ih=>
  simp only[ins]
  split
  ·simp only[List.mem_cons,ih];constructor
   ·rintro (h|h|h)<;>simp[h]
   ·rintro (h|h|h)<;>simp[h]
  ·simp
theorem mem_srt(l:List Mn)(m:Mn):m∈srt l<->m∈l:=by
 induction l using snocRec with
 | nil=>simp[srt]
 | snoc l x ih=>rw[srt_snoc,mem_ins,ih];simp[or_comm]
def Rises(l:List Mn):Prop:=l.Pairwise (fun a b=>a.1<=b.1)
theorem rises_ins(x:Mn):∀l:List Mn,Rises l->Rises (ins x l)
 | [],_=>by simp[ins,Rises]
 | y::l,h=>by
  have h':=List.pairwise_cons.1 h
  simp only[ins]
  split
  ·rename_i hy
   refine List.pairwise_cons.2 ⟨fun m hm=>?_,rises_ins x l h'.2⟩
   rcases(mem_ins x l m).1 hm with rfl|hm
   ·exact hy
   ·exact h'.1 m hm
  ·rename_i hy
   refine List.pairwise_cons.2 ⟨fun m hm=>?_,h⟩
   rcases List.mem_cons.1 hm with rfl|hm
   ·omega
   ·have:=h'.1 m hm;omega
theorem rises_srt(l:List Mn):Rises (srt l):=by
 induction l using snocRec with
 | nil=>simp[srt,Rises]
 | snoc l x ih=>rw[srt_snoc];exact rises_ins x _ ih
def tot:List Mn->Int
 | []=>0
 | m::l=>m.2+tot l
theorem tot_append(a b:List Mn):tot (a++b)=tot a+tot b:=by
 induction a with
 | nil=>simp[tot]
 | cons m a ih=>simp only[List.cons_append,tot,ih];omega
theorem tot_ins(x:Mn)(l:List Mn):tot (ins x l)=x.2+tot l:=by
 induction l with
 | nil=>rfl
 | cons y l ih=>simp only[ins];split<;>simp only[tot,ih];omega
theorem tot_srt(l:List Mn):tot (srt l)=tot l:=by
 induction l using snocRec with
 | nil=>rfl
 | snoc l x ih=>rw[srt_snoc,tot_ins,ih,tot_append];simp only[tot];omega
theorem tot_take_succ(l:List Mn)(j:Nat)(h:j<l.length):tot (l.take (j+1))=tot (l.take j)+l[j].2:=by
 rw[List.take_succ_eq_append_getElem h,tot_append];simp[tot]
def okM(m:Mn):Prop:=-9223372036854775808<=m.1/\m.1<=9223372036854775807/\0<m.2
def okL(l:List Mn):Prop:=∀m∈l,okM m
theorem okL.tot_nonneg:∀{l:List Mn},okL l->0<=tot l
 | [],_=>by simp[tot]
 | m::l,h=>by
  have h1:=okL.tot_nonneg (l:=l) (fun x hx=>h x (List.mem_cons_of_mem _ hx))
  have h2:=(h m (List.mem_cons_self ..)).2.2
  simp only[tot];omega
theorem okL.tail{m:Mn}{l:List Mn}(h:okL (m::l)):okL l:=fun x hx=>h x (List.mem_cons_of_mem _ hx)
theorem okL.append{a b:List Mn}(h:okL a)(k:okL b):okL (a++b):=fun m hm=>by
 rcases List.mem_append.1 hm with h1|h1
 ·exact h m h1
 ·exact k m h1
theorem okL.srt{l:List Mn}(h:okL l):okL (srt l):=fun m hm=>h m ((mem_srt l m).1 hm)
theorem okL.take{l:List Mn}(h:okL l)(j:Nat):okL (l.take j):=fun m hm=>h m (List.mem_of_mem_take hm)
theorem okL.drop{l:List Mn}(h:okL l)(j:Nat):okL (l.drop j):=fun m hm=>h m (List.mem_of_mem_drop hm)
theorem okL.get{l:List Mn}(h:okL l){j:Nat}(hj:j<l.length):okM l[j]:=h _ (List.getElem_mem hj)
theorem okL.tot_take{l:List Mn}(h:okL l)(j:Nat):0<=tot (l.take j)/\tot (l.take j)<=tot l:=by
 have h1:=(h.take j).tot_nonneg
 have h2:=(h.drop j).tot_nonneg
 have h3:=tot_append (l.take j) (l.drop j)
 rw[List.take_append_drop] at h3
 omega
theorem okL.tot_get{l:List Mn}(h:okL l){j:Nat}(hj:j<l.length):tot (l.take j)+l[j].2<=tot l:=by
 rw[<-tot_take_succ l j hj];exact(h.tot_take _).2
def mayI(d n done weight:Int):Bool:=decide (weight * d * n<=(2 * done+weight) * (2 * n - 2 * done - weight))
def pressL(d n:Int):List Mn->Int->Mn->List Mn
 | [],_,now=>[now]
 | m::l,done,now=>if mayI d n done (now.2+m.2) then pressL d n l done (lerpI now.1 m.1 m.2 (now.2+m.2),now.2+m.2) else now::pressL d n l (done+now.2) m
def press(d n:Int):List Mn->List Mn
 | []=>[]
 | m::l=>pressL d n l 0 m
def prs(d:Int)(l:List Mn):List Mn:=press d (tot l) (srt l)
theorem pressL_tot(d n:Int):∀(l:List Mn) (done:Int) (now:Mn),tot (pressL d n l done now)=now.2+tot l
 | [],_,now=>by simp[pressL,tot]
 | m::l,done,now=>by
  unfold pressL
  split
  ·rw[pressL_tot];simp only[tot];omega
  ·simp only[tot];rw[pressL_tot]
theorem press_tot(d n:Int)(l:List Mn):tot (press d n l)=tot l:=by
 cases l with
 | nil=>rfl
 | cons m l=>simp only[press,pressL_tot,tot]
theorem prs_tot(d:Int)(l:List Mn):tot (prs d l)=tot l:=by rw[prs,press_tot,tot_srt]
structure PrAt(d n:Int)(l:List Mn)(j:Nat)(acc:List Mn)(now:Mn):Prop where
 e:press d n l=acc++pressL d n (l.drop j) (tot acc) now
 t:tot acc+now.2+tot (l.drop j)=n
 ok:okL (now::l.drop j)
 oka:okL acc
 rise:Rises (now::l.drop j)
 len:acc.length+1<=j
theorem PrAt.start(d:Int){l:List Mn}(h0:0<l.length)(ho:okL l)(hr:Rises l):PrAt d (tot l) l 1 [] l[0]:=by
 match l,h0 with
 | m::l,_=>
  refine⟨by simp[press,tot],by simp[tot],ho,(fun m hm=>by simp at hm),hr,by simp⟩
theorem drop_cons{l:List Mn}{j:Nat}(h:j<l.length):l.drop j=l[j]::l.drop (j+1):=List.drop_eq_getElem_cons h
theorem PrAt.facts{d n:Int}{l:List Mn}{j:Nat}{acc:List Mn}{now:Mn}(h:PrAt d n l j acc now)(hj:j<l.length) :
 0<=tot acc/\okM now/\okM l[j]/\now.1<=l[j].1/\tot acc+(now.2+l[j].2)<=n:=by
 have h1:=h.oka.tot_nonneg
 have h2:=h.ok
 have h3:=h.rise
 have h4:=h.t
 rw[drop_cons hj] at h2 h3 h4
 have h5:=h2.tail.tail.tot_nonneg
 simp only[tot] at h4
 refine⟨h1,h2 _ (List.mem_cons_self ..),h2 l[j] (List.mem_cons_of_mem _ (List.mem_cons_self ..)),(List.pairwise_cons.1 h3).1 _ (List.mem_cons_self ..),by omega⟩
theorem PrAt.merge{d n:Int}{l:List Mn}{j:Nat}{acc:List Mn}{now:Mn}(h:PrAt d n l j acc now)(hj:j<l.length)(hm:mayI d n (tot acc) (now.2+l[j].2)=true) :
 PrAt d n l (j+1) acc (lerpI now.1 l[j].1 l[j].2 (now.2+l[j].2),now.2+l[j].2):=by
 obtain⟨f1,f2,f3,f4,f5⟩:=h.facts hj
 obtain⟨e,t,ok,oka,rise,len⟩:=h
 rw[drop_cons hj] at e t ok rise
 have o1:=f2.2.2
 have o2:=f3.2.2
 have hl:=lerpI_bd f4 (x:=l[j].2) (y:=now.2+l[j].2) (by omega) (by omega) (by omega)
 have hp:=List.pairwise_cons.1 rise
 have hp2:=List.pairwise_cons.1 hp.2
 refine⟨?_,?_,?_,oka,?_,by omega⟩
 ·rw[e];conv=>lhs;rw[pressL,if_pos hm]
 ·simp only[tot] at t |-;omega
 ·intro x hx
  rcases List.mem_cons.1 hx with rfl|hx
  ·unfold okM at *;refine⟨?_,?_,?_⟩<;>simp only<;>omega
  ·exact ok x (List.mem_cons_of_mem _ (List.mem_cons_of_mem _ hx))
 ·refine List.pairwise_cons.2 ⟨fun x hx=>?_,hp2.2⟩
  have:=hp2.1 x hx
  simp only
  omega
theorem PrAt.push{d n:Int}{l:List Mn}{j:Nat}{acc:List Mn}{now:Mn}(h:PrAt d n l j acc now)(hj:j<l.length)(hm:mayI d n (tot acc) (now.2+l[j].2)=false) :
 PrAt d n l (j+1) (acc++[now]) l[j]:=by
 obtain⟨e,t,ok,oka,rise,len⟩:=h
 rw[drop_cons hj] at e t ok rise
 have hp:=List.pairwise_cons.1 rise
 have ht:tot (acc++[now])=tot acc+now.2:=by rw[tot_append];simp[tot]
 refine⟨?_,?_,ok.tail,?_,hp.2,by simp;omega⟩
 ·rw[e,ht,List.append_assoc];conv=>lhs;rw[pressL,if_neg (by rw[hm];simp)]
  rfl
 ·rw[ht];simp only[tot] at t;omega
 ·exact oka.append (fun m hm=>by simp only[List.mem_singleton] at hm;subst hm;exact ok m (List.mem_cons_self ..))
theorem PrAt.fin{d n:Int}{l:List Mn}{acc:List Mn}{now:Mn}(h:PrAt d n l l.length acc now):press d n l=acc++[now]:=by
 have e:=h.e
 rw[List.drop_length] at e
 exact e
structure St where
 L:List Mn
 W:List Mn
 lo:Int
 hi:Int
namespace St
def zero:St:=⟨[],[],0,0⟩
def take(d:Int)(s t:St):St:=
 if tot (t.L++t.W)=0 then s else⟨prs d (s.L++(s.W++(t.L++t.W))),[],if tot (s.L++s.W)=0 then t.lo else min s.lo t.lo,if tot (s.L++s.W)=0 then t.hi else max s.hi t.hi⟩
structure Ok(d:Int)(s:St)(k:Nat):Prop where
 ok:okL (s.L++s.W)
 bd:∀m∈s.L++s.W,s.lo<=m.1/\m.1<=s.hi
 lo0:-9223372036854775808<=s.lo
 lo1:s.lo<=9223372036854775807
 hi0:-9223372036854775808<=s.hi
 hi1:s.hi<=9223372036854775807
 emp:s.L++s.W=[]->s.lo=0/\s.hi=0
 len:s.L.length+s.W.length<=k
 wl:(s.W.length:Int)<d
 rise:Rises s.L
theorem zero_ok(d:Int)(h:0<d):zero.Ok d 0:=⟨fun m hm=>by simp[zero] at hm,fun m hm=>by simp[zero] at hm,by simp[zero],by simp[zero],by simp[zero],by simp[zero],fun _=>⟨rfl,rfl⟩,by simp[zero],by simpa[zero] using h,by simp[zero,Rises]⟩
theorem Ok.more{d:Int}{s:St}{k j:Nat}(h:s.Ok d k)(hk:k<=j):s.Ok d j:=⟨h.ok,h.bd,h.lo0,h.lo1,h.hi0,h.hi1,h.emp,Nat.le_trans h.len hk,h.wl,h.rise⟩
theorem okL_pos{l:List Mn}(h:okL l)(hne:l≠[]):0<tot l:=by
 match l,hne with
 | m::l,_=>
  have h1:=(h m (List.mem_cons_self ..)).2.2
  have h2:=h.tail.tot_nonneg
  simp only[tot];omega
theorem Ok.n_zero{d:Int}{s:St}{k:Nat}(h:s.Ok d k):tot (s.L++s.W)=0<->s.L++s.W=[]:=by
 constructor
 ·intro h0
  by_cases hne:s.L++s.W=[]
  ·exact hne
  ·have:=okL_pos h.ok hne;omega
 ·intro h0;rw[h0];rfl
theorem Ok.n_nonneg{d:Int}{s:St}{k:Nat}(h:s.Ok d k):0<=tot (s.L++s.W):=h.ok.tot_nonneg
end St
def rawL(l:List Mn):Prop:=∀m∈l,-9223372036854775808<=m.1/\m.1<=9223372036854775807/\0<=m.2/\m.2<=18446744073709551615
end Go.Proofs.YtingnldfpokckaaGreat
