/- Parts of a proof: what its theorem reaches, words cut short. No condition of its own. -/
import Derived.Test.YtingnldfpokckaaGreatPm01
import Derived.ProofKit
import Derived.OpenShut
import Derived.Carry
import Derived.ChangeSame
import Derived.Test.YtingnldfpokckaaGreatProg
set_option maxRecDepth 100000
set_option maxHeartbeats 16000000
set_option linter.unusedVariables false
set_option linter.unusedSimpArgs false
namespace Go.Proofs.YtingnldfpokckaaGreat
open Go.RowKit Go.ChangeShapes Go.WideShapes
def RdI(k:IntKind)(w:World)(v:Value)(zs:List Int):Prop:=Rd 1 w v zs.length (zs.map (Value.int k))
def IForm(k:IntKind)(w:World)(A:Option Addr)(zs:List Int):Prop:=0<zs.length->∃g off,A=some ⟨g,off,none⟩/\g<w.heap.size/\∀j (h:j<zs.length),w.cell? ⟨g,off+j,none⟩=some (.int k zs[j])
section
variable {k : IntKind} {w w' : World} {v : Value} {zs : List Int}
theorem RdI.keep(h:RdI k w v zs)(hb:Below w.heap.size w w'):RdI k w' v zs:=Rd.keep h hb
theorem RdI.form(h:RdI k w v zs):∃A c,v=.slice A zs.length c/\zs.length<=c/\c<=9223372036854775807/\IForm k w A zs:=by
 obtain⟨_,A,c,hv,h1,h2,h3⟩:=h
 refine⟨A,c,hv,h1,by unfold maxLen at h2;omega,fun h0=>?_⟩
 obtain⟨g,off,hA,hg,hj⟩:=h3 h0
 refine⟨g,off,hA,hg,fun j h=>?_⟩
 rw[hj j (by omega)]
 simp[List.getElem?_eq_getElem h]
theorem IForm.at_{A:Option Addr}(h:IForm k w A zs){j:Nat}(hj:j<zs.length):∃g off,A=some ⟨g,off,none⟩/\g<w.heap.size/\w.cell? ⟨g,off+j,none⟩=some (.int k zs[j]):=by
 obtain⟨g,off,hA,hg,hc⟩:=h (by omega)
 exact⟨g,off,hA,hg,hc j hj⟩
end
section
variable {H : Type} {enc : TypeId × Value -> H} {P : Program} {w : World} {base : Nat} {held : Bool}
theorem trodAll_stays(hl:laidOutB P=true){W W':World}(hb:Below W.heap.size W W'){sp:Nat->Bool}:∀{ts:List TypeId} {vs:List Value} {ds:List (DataW H)} {ps:List MemPlace},
 (∀t∈ts,P.readableRec t=true/\t<P.types.size)->DataW.TrodAll enc P W 0 (fun _=>true) true ts vs ds ps->(∀x∈ps,x.block<W.heap.size)->(∀x∈ps,sp x.block=true)->DataW.TrodAll enc P W' 0 sp true ts vs ds ps
 | [],_,_,_,_,h,_,_=>by
  obtain⟨rfl,rfl,rfl⟩:=trodAll_nil h
  exact trodAll_mk0
 | t::ts,_,_,_,hr,h,hlt,hsp=>by
  obtain⟨v,vs1,d,ds1,a,b,rfl,rfl,rfl,h1,h2⟩:=trodAll_cons h
  obtain⟨r1,r2⟩:=hr t (List.mem_cons_self ..)
  refine trodAll_cons_mk (WideElems.Trod_stays hl r1 r2 h1 (fun x hx=>hb.same (hlt x (by simp[hx]))) (fun x hx=>hsp x (by simp[hx]))) ?_
  exact trodAll_stays hl hb (fun t ht=>hr t (List.mem_cons_of_mem _ ht)) h2 (fun x hx=>hlt x (by simp[hx])) (fun x hx=>hsp x (by simp[hx]))
end
section
variable {H : Type} {enc : TypeId × Value -> H} {P : Program}
theorem law_post{f:Func}{s:ChangeSpec}{fresh handsOn again:Bool}{W W':World}{args:Array Value}{ds:List (DataW H)}{before:List MemPlace}{t:TypeId}
 (hl:laidOutB P=true) (hr:(f.params.toList.all fun t=>P.readableRec t && decide (t<P.types.size))=true) (hv:s.vars=[]) (hrt:f.resultTypes=#[t]) (ht:P.underlying t=some .bool)
 (hW:DataW.Whole enc P f.params.toList s.vars false W args.toList ds [] before) (hsp:s.fn H ds={results:=[.lit (.bool true)],args:=ds}) (hb:Below W.heap.size W W') :
 s.post enc P f false fresh handsOn again W args (.bool true) W':=by
 have hlt:∀p∈before,p.block<W.heap.size:=fun p hp=>hW.lt p hp
 have hold:∀p∈before,(fun b=>decide (b<W.heap.size)) p.block=true:=fun p hp=>by simpa using hlt p hp
 have hW':=hW
 obtain⟨p,q,hA,hV,rfl,hz,hn⟩:=hW
 have hr':∀t∈f.params.toList,P.readableRec t=true/\t<P.types.size:=fun t ht=>by
  have:=List.all_eq_true.1 hr t ht
  simpa using this
 rw[hv] at hV
 obtain⟨_,rfl⟩:=trodVars_none hV
 have hlt':∀x∈p,x.block<W.heap.size:=fun x hx=>hlt x (by simp[hx])
 have hargs:∀sp:Nat->Bool,(∀x∈p,sp x.block=true)->DataW.TrodAll enc P W' 0 sp true f.params.toList args.toList (s.fn H (ds++[])).args p:=fun sp hsp2=>by
  rw[List.append_nil,hsp]
  exact trodAll_stays hl hb hr' hA hlt' hsp2
 have hres:∀(b:Nat) (sp:Nat->Bool) (hd:Bool),DataW.TrodAll enc P W' b sp hd f.resultTypes.toList ((Value.bool true).resultList f.resultTypes.size) (s.fn H (ds++[])).results []:=fun b sp hd=>by
  rw[List.append_nil,hsp,hrt]
  exact trodAll_cons_mk (shut_bool ht _) trodAll_mk0
 have hvars:∀sp:Nat->Bool,DataW.TrodVars enc P W' sp s.vars (s.fn H (ds++[])).vars []:=fun sp=>by
  rw[List.append_nil,hsp,hv]
  exact rfl
 refine⟨ds,[],p++[],[],p,[],hW',hres _ _ _,hargs _ (fun x hx=>by simpa using hlt' x hx),hvars _,World.keptBut_mono (fun x hx=>⟨hx,.inr (by simpa using hx)⟩) (hb.frame (·∈p++[])),fun _=>?_⟩
 refine⟨ok_one hrt rfl (okWide_bool_mk ht _),_,_,([]++p)++[],⟨[]++p,[],trodAll_append (hargs _ (fun _ _=>rfl)) (hres _ _ _),hvars _,rfl,?_,?_⟩,?_⟩
 ·intro b off hp
  have hin:MemPlace.cell b off∈p:=by simpa using hp
  rw[hb.frozen (hlt' _ hin)]
  exact hz b off (by simpa using hin)
 ·intro ha
  cases ha
 ·intro x hx _
  simpa using hx
end
open Go.RowKit Go.Lib
def OwnI(t:TypeId)(k:IntKind)(base:Nat)(w:World)(v:Value)(l:List Int):Prop:=w.ownsRow base t 1 v l.length (l.map (Value.int k))
section
variable {t : TypeId} {k : IntKind} {base : Nat} {w w' : World} {v : Value} {l : List Int}
theorem OwnI.rd(h:OwnI t k base w v l):RdI k w v l:=Rd.of_own h
theorem OwnI.alloc(h:OwnI t k base w v l)(o:Obj):OwnI t k base (w.alloc o) v l:=World.ownsRow.alloc h o
theorem OwnI.drewN(h:OwnI t k base w v l)(n:Nat):OwnI t k base (w.drewN n) v l:=h
theorem OwnI.drew(h:OwnI t k base w v l):OwnI t k base w.drew v l:=h
theorem OwnI.lt(h:OwnI t k base w v l):∀g,v.ownBlock=some g->base<=g/\g<w.heap.size:=World.ownsRow.lt h
theorem OwnI.stay(h:OwnI t k base w v l)(hk:∀g,v.ownBlock=some g->w'.heap[g]?=w.heap[g]?):OwnI t k base w' v l:=by
 obtain⟨h1,h2⟩:=h
 refine⟨h1,?_⟩
 rcases h2 with h2|⟨g,cap,cur,rfl,e2,e3,r⟩
 ·exact .inl h2
 ·exact .inr ⟨g,cap,cur,rfl,e2,(hk g rfl).trans e3,r⟩
theorem OwnI.keep(h:OwnI t k base w v l)(hb:Below w.heap.size w w'):OwnI t k base w' v l:=h.stay fun g hg=>hb.block g (h.lt g hg).2
theorem OwnI.nil_(t:TypeId)(k:IntKind)(base:Nat)(w:World):OwnI t k base w (.slice none 0 0) []:=⟨rfl,.inl ⟨rfl,rfl⟩⟩
theorem OwnI.one(t:TypeId)(k:IntKind)(w:World)(x:Int):OwnI t k w.heap.size (w.alloc (.cells #[.int k x] t)) (.slice (some ⟨w.heap.size,0,none⟩) 1 1) [x]:=
 ⟨rfl,.inr ⟨w.heap.size,1,_,rfl,Nat.le_refl _,heap_alloc_new _ _,by simp,by unfold maxLen;omega,rfl,by simp⟩⟩
theorem RdI.one_at(t:TypeId)(k:IntKind)(w:World)(x:Int)(H:Nat)(h:w.heap.size=H):RdI k (w.alloc (.cells #[.int k x] t)) (.slice (some ⟨H,0,none⟩) 1 1) [x]:=by
 subst h;exact(OwnI.one t k w x).rd
end
theorem infoS:(Tryz.prog.info? 2).map (fun i=>(i.zero,i.size,i.bytes))=some (some (.int .i64 0),1,8):=by kernel_rfl
theorem int_one(k:IntKind)(l:List Int):∀u∈l.map (Value.int k),u.oneCell'=true:=fun u hu=>by
 obtain⟨x,_,rfl⟩:=List.mem_map.1 hu
 rfl
theorem append_I{ts t:TypeId}{k:IntKind}(ht:Tryz.prog.underlying ts=some (.slice t))(hinfo:(Tryz.prog.info? t).map (fun i=>(i.zero,i.size,i.bytes))=some (some (.int k 0),1,8))
 {w:World} {ops:Array Oper} {rest:List Oper} {o:Oper} {a:Act} {Q:Exit->Act->World->Prop} (hgd:o.guard=none) (s x:Operand)
 (ho:o.op=.call {callee:=.builtin .append,args:=#[s,x],argTypes:=#[ts,ts]})
 (base:Nat) (v:Value) (xs:List Int) (hs:a.eval s=v) (hown:OwnI t k base w v xs)
 (u:Value) (news:List Int) (hx:a.eval x=u) (hr:RdI k w u news)
 (hlen:xs.length+news.length<=1099511627776) (hbase:base<=w.heap.size)
 (h:∀v' w',OwnI t k base w' v' (xs++news)->w.grownBy w' v.ownBlock->(v'.ownBlock=v.ownBlock\/v'.ownBlock=some w.heap.size)->wpList Tryz.prog ops Q rest (a.put o.dst v') w'):wpList Tryz.prog ops Q (o::rest) a w:=by
 obtain⟨i0,hi,hz0,hz1,hz2⟩:=info_parts hinfo
 obtain⟨A,c,rfl,_,_,_⟩:=hr.form
 refine wpList_append_rd w hgd s x ts ho base t i0 _ 1 8 ht hi hz0 hz1 hz2 rfl (by omega) v xs.length (xs.map (Value.int k)) hs hown A news.length c (news.map (Value.int k)) hx hr (int_one k _)
  (by unfold maxLen;omega) (by omega) hbase fun v' w' h1 h2 h3=>h v' w' ?_ h2 h3
 unfold OwnI
 rw[List.length_append,List.map_append]
 exact h1
open Go.RowKit
def dig(n:Int)(j:Nat):Int:=n / 65536 ^ j % 65536
def valD:List Int->Int
 | []=>0
 | d::l=>d+65536 * valD l
def digs:Nat->Int->List Int
 | 0,_=>[]
 | k+1,n=>n % 65536::digs k (n / 65536)
def okD(l:List Int):Prop:=∀d∈l,0<=d/\d<65536
theorem pow_pos'(j:Nat):(0:Int)<65536 ^ j:=Int.pow_pos (by omega)
theorem dig_bd(n:Int)(j:Nat):0<=dig n j/\dig n j<65536:=⟨Int.emod_nonneg _ (by omega),Int.emod_lt_of_pos _ (by omega)⟩
theorem dig_zero(n:Int):dig n 0=n % 65536:=by simp[dig]
theorem dig_succ(n:Int)(j:Nat):dig n (j+1)=dig (n / 65536) j:=by
 unfold dig
 rw[Int.pow_succ,Int.mul_comm,<-Int.ediv_ediv_of_nonneg (by omega)]
theorem digs_length(k:Nat):∀n,(digs k n).length=k:=by
 induction k with
 | zero=>intro n;rfl
 | succ k ih=>intro n;simp[digs,ih]
theorem digs_get(k:Nat):∀(n:Int) (j:Nat),j<k->(digs k n)[j]?=some (dig n j):=by
 induction k with
 | zero=>intro n j h;omega
 | succ k ih=>
  intro n j h
  cases j with
  | zero=>simp[digs,dig_zero]
  | succ j=>simp only[digs,List.getElem?_cons_succ];rw[ih _ _ (by omega),dig_succ]
theorem digs_getD(k:Nat)(n:Int)(j:Nat)(h:j<k):(digs k n)[j]?.getD 0=dig n j:=by
 rw[digs_get k n j h];rfl
theorem digs_ok(k:Nat):∀n,okD (digs k n):=by
 induction k with
 | zero=>intro n d h;cases h
 | succ k ih=>
  intro n d h
  rcases List.mem_cons.1 h with rfl|h
  ·exact⟨Int.emod_nonneg _ (by omega),Int.emod_lt_of_pos _ (by omega)⟩
  ·exact ih _ d h
theorem digs_val(k:Nat):∀n,0<=n->n<65536 ^ k->valD (digs k n)=n:=by
 induction k with
 | zero=>intro n h0 h1;simp at h1;simp[digs,valD];omega
 | succ k ih=>
  intro n h0 h1
  have h2:n / 65536<65536 ^ k:=Int.ediv_lt_of_lt_mul (by omega) (by rw[<-Int.pow_succ];exact h1)
  simp only[digs,valD]
  rw[ih _ (by omega) h2]
  omega
theorem digs_unique:∀l,okD l->l=digs l.length (valD l)
 | [],_=>rfl
 | d::l,h=>by
  have h1:=digs_unique l (fun x hx=>h x (List.mem_cons_of_mem _ hx))
  have h2:=h d (List.mem_cons_self ..)
  simp only[List.length_cons,digs,valD]
  rw[show(d+65536 * valD l) % 65536=d by omega,show(d+65536 * valD l) / 65536=valD l by omega,<-h1]
theorem valD_set:∀(l:List Int) (j:Nat) (v:Int),j<l.length->valD (l.set j v)=valD l+(v - l[j]?.getD 0) * 65536 ^ j
 | [],j,v,h=>by simp at h
 | d::l,0,v,_=>by simp[valD];omega
 | d::l,j+1,v,h=>by
  have:=valD_set l j v (by simpa using h)
  simp only[List.set_cons_succ,valD,this,List.getElem?_cons_succ,Int.pow_succ]
  rw[Int.mul_comm (65536 ^ j) 65536,<-Int.mul_assoc,Int.mul_comm _ 65536,Int.mul_assoc]
  omega
theorem okD_set{l:List Int}(h:okD l)(j:Nat){v:Int}(h0:0<=v)(h1:v<65536):okD (l.set j v):=by
 intro d hd
 rcases List.mem_or_eq_of_mem_set hd with hd|rfl
 ·exact h d hd
 ·exact⟨h0,h1⟩
theorem okD_getD{l:List Int}(h:okD l)(j:Nat):0<=l[j]?.getD 0/\l[j]?.getD 0<65536:=by
 cases hj:l[j]? with
 | none=>simp
 | some d=>simpa using h d (List.mem_of_getElem? hj)
structure MulIn(a b:Int)(i k:Nat)(carry:Int)(l:List Int):Prop where
 len:l.length=8
 ok:okD l
 c0:0<=carry
 c1:carry<65536
 e:valD l+carry * 65536 ^ (i+k)=(a % 65536 ^ i) * b+dig a i * 65536 ^ i * (b % 65536 ^ k)
 z:∀j,i+4<=j->l[j]?.getD 0=0
structure MulOut(a b:Int)(i:Nat)(l:List Int):Prop where
 len:l.length=8
 ok:okD l
 e:valD l=(a % 65536 ^ i) * b
 z:∀j,i+4<=j->l[j]?.getD 0=0
theorem emod_step(a:Int)(i:Nat):a % 65536 ^ (i+1)=a % 65536 ^ i+dig a i * 65536 ^ i:=by
 have p:=pow_pos' i
 have h1:=Int.mul_ediv_add_emod a (65536 ^ i)
 have h2:=Int.mul_ediv_add_emod a (65536 ^ (i+1))
 have h3:a / 65536 ^ (i+1)=a / 65536 ^ i / 65536:=by rw[Int.pow_succ,Int.ediv_ediv_of_nonneg (by omega)]
 have h4:=Int.mul_ediv_add_emod (a / 65536 ^ i) 65536
 unfold dig
 rw[h3,Int.pow_succ] at h2
 generalize a / 65536 ^ i % 65536=m at *
 generalize a / 65536 ^ i / 65536=k at *
 have h5:(65536:Int) ^ i * 65536 * k=65536 ^ i * (65536 * k):=by rw[Int.mul_assoc]
 have h6:(65536:Int) ^ i * (65536 * k+m)=65536 ^ i * (65536 * k)+m * 65536 ^ i:=by rw[Int.mul_add,Int.mul_comm m]
 rw[<-h4,h6] at h1
 rw[Int.pow_succ]
 omega
theorem MulOut.start(a b:Int):MulOut a b 0 (List.replicate 8 0):=by
 refine⟨rfl,fun d h=>?_,?_,fun j _=>?_⟩
 ·have:=List.eq_of_mem_replicate h;omega
 ·simp[valD,List.replicate,Int.emod_one]
 ·rw[List.getElem?_replicate];split<;>rfl
theorem MulOut.into{a b:Int}{i:Nat}{l:List Int}(h:MulOut a b i l):MulIn a b i 0 0 l:=
 ⟨h.len,h.ok,by omega,by omega,by rw[h.e];simp[Int.emod_one],h.z⟩
theorem mul_small{x y:Int}(x0:0<=x)(x1:x<65536)(y0:0<=y)(y1:y<65536):0<=x * y/\x * y<=4294836225:=by
 have h1:x * y<=65535 * y:=Int.mul_le_mul_of_nonneg_right (by omega) y0
 exact⟨Int.mul_nonneg x0 y0,by omega⟩
theorem MulIn.next{a b:Int}{i k:Nat}{carry:Int}{l:List Int}(h:MulIn a b i k carry l)(hk:k<4)(hi:i<4) :
 MulIn a b i (k+1) ((l[i+k]?.getD 0+dig a i * dig b k+carry) / 65536) (l.set (i+k) ((l[i+k]?.getD 0+dig a i * dig b k+carry) % 65536)):=by
 obtain⟨len,ok,c0,c1,e,z⟩:=h
 have hd:=okD_getD ok (i+k)
 have hm:=mul_small (dig_bd a i).1 (dig_bd a i).2 (dig_bd b k).1 (dig_bd b k).2
 have hs:=valD_set l (i+k) ((l[i+k]?.getD 0+dig a i * dig b k+carry) % 65536) (by omega)
 refine⟨by simp[len],okD_set ok _ (by omega) (by omega),by omega,by omega,?_,fun j hj=>?_⟩
 ·rw[hs,emod_step b k]
  have e1:(65536:Int) ^ (i+(k+1))=65536 ^ (i+k) * 65536:=by rw[<-Nat.add_assoc,Int.pow_succ]
  have e2:(65536:Int) ^ (i+k)=65536 ^ i * 65536 ^ k:=Int.pow_add ..
  have e3:dig a i * 65536 ^ i * (b % 65536 ^ k+dig b k * 65536 ^ k)=dig a i * 65536 ^ i * (b % 65536 ^ k)+dig a i * dig b k * 65536 ^ (i+k):=by
   rw[Int.mul_add,e2]
   congr 1
   rw[Int.mul_assoc,Int.mul_left_comm (65536 ^ i),Int.mul_assoc]
  rw[e1,e3]
  generalize l[i+k]?.getD 0=u at *
  generalize dig a i * dig b k=m at *
  generalize (65536:Int) ^ (i+k)=P at *
  generalize hn:u+m+carry=n at *
  have h4:n / 65536 * (P * 65536)=n / 65536 * 65536 * P:=by rw[Int.mul_comm P,Int.mul_assoc]
  have h5:(n % 65536 - u) * P+n / 65536 * 65536 * P=(m+carry) * P:=by
   rw[<-Int.add_mul];congr 1;omega
  have h6:(m+carry) * P=m * P+carry * P:=Int.add_mul ..
  omega
 ·rw[List.getElem?_set_ne (by omega)]
  exact z j hj
theorem MulIn.out{a b:Int}{i:Nat}{carry:Int}{l:List Int}(h:MulIn a b i 4 carry l)(hi:i<4)(b0:0<=b)(b1:b<18446744073709551616) :
 MulOut a b (i+1) (l.set (i+4) (l[i+4]?.getD 0+carry)):=by
 obtain⟨len,ok,c0,c1,e,z⟩:=h
 have hz:=z (i+4) (by omega)
 have hs:=valD_set l (i+4) (l[i+4]?.getD 0+carry) (by omega)
 rw[hz] at hs |-
 refine⟨by simp[len],okD_set ok _ (by omega) (by omega),?_,fun j hj=>?_⟩
 ·rw[show b % 65536 ^ 4=b by omega] at e
  rw[hs,emod_step a i,Int.add_mul]
  generalize (65536:Int) ^ (i+4)=P at *
  have:(0+carry - 0) * P=carry * P:=by congr 1;omega
  omega
 ·rw[List.getElem?_set_ne (by omega)]
  exact z j (by omega)
theorem MulOut.fin{a b:Int}{l:List Int}(h:MulOut a b 4 l)(a0:0<=a)(a1:a<18446744073709551616):l=digs 8 (a * b):=by
 have h1:=digs_unique l h.ok
 rw[h.len,h.e,show a % 65536 ^ 4=a by omega] at h1
 exact h1
theorem div_step(X:Int)(i:Nat):X / 65536 ^ i=X / 65536 ^ (i+1) * 65536+dig X i:=by
 unfold dig
 rw[Int.pow_succ,<-Int.ediv_ediv_of_nonneg (by have:=pow_pos' i;omega)]
 omega
theorem valD_digs8{X:Int}(h0:0<=X)(h1:X<340282366920938463463374607431768211456):valD (digs 8 X)=X:=digs_val 8 X h0 (by omega)
theorem pow2_pos(i:Nat):(0:Int)<2 ^ i:=Int.pow_pos (by omega)
theorem dig_bit(X:Int)(i:Nat):dig X (i / 16) / 2 ^ (i % 16) % 2=X / 2 ^ i % 2:=by
 unfold dig
 have e1:(65536:Int) ^ (i / 16) * 2 ^ (i % 16)=2 ^ i:=by
  rw[show(65536:Int)=2 ^ 16 by decide,<-Int.pow_mul,<-Int.pow_add,show 16 * (i / 16)+i % 16=i by omega]
 rw[<-e1,<-Int.ediv_ediv_of_nonneg (by have:=pow_pos' (i / 16);omega)]
 generalize X / 65536 ^ (i / 16)=y
 have e2:(65536:Int)=2 ^ (i % 16) * (2 * 2 ^ (15 - i % 16)):=by
  rw[<-Int.mul_assoc,Int.mul_comm _ 2,Int.mul_assoc,<-Int.pow_add,show i % 16+(15 - i % 16)=15 by omega];decide
 have p:=pow2_pos (i % 16)
 have q:=pow2_pos (15 - i % 16)
 have h1:=Int.mul_ediv_add_emod y 65536
 generalize y % 65536=m at *
 generalize hk:y / 65536=k at *
 clear hk
 rw[<-h1]
 have h2:65536 * k+m=m+2 ^ (i % 16) * (2 * (2 ^ (15 - i % 16) * k)):=by
  have:(2:Int) ^ (i % 16) * (2 * (2 ^ (15 - i % 16) * k))=2 ^ (i % 16) * (2 * 2 ^ (15 - i % 16)) * k:=by
   rw[Int.mul_assoc,Int.mul_assoc]
  rw[this,<-e2];omega
 rw[h2,Int.add_mul_ediv_left _ _ (by omega)]
 omega
theorem digs_put(q:Int)(i:Nat)(hi:i<128)(q0:0<=q)(q1:q * 2 ^ (i+1)+2 ^ i<340282366920938463463374607431768211456) :
 (digs 8 (q * 2 ^ (i+1))).set (i / 16) (dig (q * 2 ^ (i+1)) (i / 16)+2 ^ (i % 16))=digs 8 (q * 2 ^ (i+1)+2 ^ i)/\dig (q * 2 ^ (i+1)) (i / 16)+2 ^ (i % 16)<65536:=by
 have pi:=pow2_pos i
 have pi1:=pow2_pos (i+1)
 have Q0:0<=q * 2 ^ (i+1):=Int.mul_nonneg q0 (by omega)
 have hl:=digs_length 8 (q * 2 ^ (i+1))
 have hg:=digs_getD 8 (q * 2 ^ (i+1)) (i / 16) (by omega)
 have hbd:=dig_bd (q * 2 ^ (i+1)) (i / 16)
 have p:=pow2_pos (i % 16)
 have pq:=pow2_pos (15 - i % 16)
 have e1:(2:Int) ^ (i % 16) * 65536 ^ (i / 16)=2 ^ i:=by
  rw[show(65536:Int)=2 ^ 16 by decide,<-Int.pow_mul,<-Int.pow_add,show i % 16+16 * (i / 16)=i by omega]
 -- the digit is a multiple of twice the bit
 have hm:dig (q * 2 ^ (i+1)) (i / 16)=(q % 2 ^ (15 - i % 16)) * (2 * 2 ^ (i % 16)):=by
  unfold dig
  have e3:q * 2 ^ (i+1)=(q * (2 * 2 ^ (i % 16))) * 65536 ^ (i / 16):=by
   rw[Int.pow_succ,<-e1,Int.mul_assoc,Int.mul_assoc,Int.mul_comm 2,Int.mul_assoc,Int.mul_comm 2]
  have e4:(65536:Int)=2 ^ (15 - i % 16) * (2 * 2 ^ (i % 16)):=by
   rw[Int.mul_comm 2,<-Int.mul_assoc,<-Int.pow_add,show 15 - i % 16+i % 16=15 by omega];decide
  rw[e3,Int.mul_ediv_cancel _ (by have:=pow_pos' (i / 16);omega)]
  generalize (2:Int) ^ (15 - i % 16)=A at *
  generalize (2:Int) ^ (i % 16)=B at *
  rw[e4,Int.mul_comm q,Int.mul_comm A,Int.mul_emod_mul_of_pos _ _ (by omega),Int.mul_comm]
 have hlt:dig (q * 2 ^ (i+1)) (i / 16)+2 ^ (i % 16)<65536:=by
  have e4:(65536:Int)=2 ^ (15 - i % 16) * (2 * 2 ^ (i % 16)):=by
   rw[Int.mul_comm 2,<-Int.mul_assoc,<-Int.pow_add,show 15 - i % 16+i % 16=15 by omega];decide
  have h1:=Int.emod_lt_of_pos q pq
  rw[hm]
  generalize (2:Int) ^ (15 - i % 16)=A at *
  generalize (2:Int) ^ (i % 16)=B at *
  generalize q % A=r at *
  have h2:(r+1) * (2 * B)<=A * (2 * B):=Int.mul_le_mul_of_nonneg_right (by omega) (by omega)
  rw[Int.add_mul] at h2
  omega
 refine⟨?_,hlt⟩
 have hok:=okD_set (digs_ok 8 (q * 2 ^ (i+1))) (i / 16) (v:=dig (q * 2 ^ (i+1)) (i / 16)+2 ^ (i % 16)) (by omega) hlt
 have hv:=valD_set (digs 8 (q * 2 ^ (i+1))) (i / 16) (dig (q * 2 ^ (i+1)) (i / 16)+2 ^ (i % 16)) (by omega)
 rw[hg,valD_digs8 Q0 (by omega),show dig (q * 2 ^ (i+1)) (i / 16)+2 ^ (i % 16) - dig (q * 2 ^ (i+1)) (i / 16)=2 ^ (i % 16) by omega,e1] at hv
 have hu:=digs_unique _ hok
 rw[hv,List.length_set,hl] at hu
 exact hu
structure DivAt(X d:Int)(i:Nat)(q left:Int):Prop where
 e:X / 2 ^ i=q * d+left
 q0:0<=q
 l0:0<=left
 l1:left<d
theorem DivAt.bit{X d:Int}{i:Nat}{q left:Int}(h:DivAt X d (i+1) q left):X / 2 ^ i=2 * q * d+(2 * left+X / 2 ^ i % 2):=by
 have h1:X / 2 ^ (i+1)=X / 2 ^ i / 2:=by rw[Int.pow_succ,Int.ediv_ediv_of_nonneg (by have:=pow2_pos i;omega)]
 have h2:=h.e
 rw[h1] at h2
 have h3:2 * q * d=2 * (q * d):=Int.mul_assoc ..
 omega
theorem DivAt.yes{X d:Int}{i:Nat}{q left:Int}(h:DivAt X d (i+1) q left)(hd:d<=2 * left+X / 2 ^ i % 2):DivAt X d i (2 * q+1) (2 * left+X / 2 ^ i % 2 - d):=by
 have h1:=h.bit
 have:=h.q0;have:=h.l0;have:=h.l1
 have h2:(2 * q+1) * d=2 * q * d+d:=by rw[Int.add_mul,Int.one_mul]
 exact⟨by omega,by omega,by omega,by omega⟩
theorem DivAt.no{X d:Int}{i:Nat}{q left:Int}(h:DivAt X d (i+1) q left)(hd:2 * left+X / 2 ^ i % 2<d):DivAt X d i (2 * q) (2 * left+X / 2 ^ i % 2):=by
 have h1:=h.bit
 have:=h.q0;have:=h.l0
 exact⟨by omega,by omega,by omega,by omega⟩
theorem DivAt.start(X d:Int)(x0:0<=X)(x1:X<340282366920938463463374607431768211456)(d0:0<d):DivAt X d 128 0 0:=by
 refine⟨?_,by omega,by omega,d0⟩
 rw[Int.ediv_eq_zero_of_lt x0 (by omega)]
 omega
theorem DivAt.fin{X d:Int}{q left:Int}(h:DivAt X d 0 q left):q=X / d/\left=X % d:=by
 have h1:=h.e
 simp at h1
 have h2:=Int.ediv_emod_unique (a:=X) (b:=d) (r:=left) (q:=q) (by have:=h.l0;have:=h.l1;omega)
 have h3:=h2.2 ⟨by rw[h1,Int.mul_comm];omega,h.l0,h.l1⟩
 exact⟨h3.1.symm,h3.2.symm⟩
theorem DivAt.small{X d:Int}{i:Nat}{q left:Int}(h:DivAt X d i q left)(x0:0<=X)(x1:X<340282366920938463463374607431768211456)(d0:0<d):q * 2 ^ i+2 ^ i<=340282366920938463463374607431768211456+2 ^ i/\q * 2 ^ i<340282366920938463463374607431768211456:=by
 have p:=pow2_pos i
 have h1:q * 1<=q * d:=Int.mul_le_mul_of_nonneg_left (by omega) h.q0
 have h2:q<=X / 2 ^ i:=by have:=h.e;have:=h.l0;omega
 have h3:q * 2 ^ i<=X / 2 ^ i * 2 ^ i:=Int.mul_le_mul_of_nonneg_right h2 (by omega)
 have h4:=Int.ediv_mul_le X (show(2:Int) ^ i≠0 by omega)
 omega
theorem num_next(X:Int)(j m:Nat):X / 65536 ^ j % 65536 ^ (m+1)=65536 * (X / 65536 ^ (j+1) % 65536 ^ m)+dig X j:=by
 have h1:=div_step X j
 have h2:=dig_bd X j
 have p:=pow_pos' m
 rw[h1]
 generalize X / 65536 ^ (j+1)=y
 generalize dig X j=d at *
 have h3:=Int.mul_ediv_add_emod y (65536 ^ m)
 have h4:=Int.emod_nonneg y (show(65536:Int) ^ m≠0 by omega)
 have h5:=Int.emod_lt_of_pos y p
 generalize y % 65536 ^ m=r at *
 generalize y / 65536 ^ m=k at *
 have e1:y * 65536+d=(65536 * r+d)+65536 ^ (m+1) * k:=by
  have:(65536:Int) ^ (m+1) * k=65536 ^ m * k * 65536:=by rw[Int.pow_succ,Int.mul_assoc,Int.mul_comm 65536,<-Int.mul_assoc]
  omega
 rw[e1,Int.add_mul_emod_self_left,Int.emod_eq_of_lt (by omega) (by rw[Int.pow_succ];omega)]
end Go.Proofs.YtingnldfpokckaaGreat
