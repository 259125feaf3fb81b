/- Parts of a proof: what its theorem reaches, words cut short. No condition of its own. -/
import Derived.Test.YtingnldfpokckaaGreatPm39
set_option maxRecDepth 100000
set_option maxHeartbeats 16000000
set_option linter.unusedVariables false
set_option linter.unusedSimpArgs false
namespace Go.Proofs.YtingnldfpokckaaGreat.K
section
open Go.RowKit
def encV(p:Option Int)(v:Int):List Int:=match p with
 | none=>zg v
 | some q=>leb (v - q)
def wrV:Option Int->List Int->List Int
 | _,[]=>[]
 | p,v::l=>encV p v++wrV (some v) l
def wrL(l:List Int):List Int:=leb l.length++wrV none l
def wrLs:LL->List Int
 | []=>[]
 | l::L=>wrL l++wrLs L
def wrK(k:Int)(L:LL)(led:Nat):List Int:=leb k++(leb led++(leb L.length++wrLs L))
def lastV:Option Int->List Int->Option Int
 | p,[]=>p
 | _,v::l=>lastV (some v) l
theorem lastV_snoc(v:Int):∀(p:Option Int) (l:List Int),lastV p (l++[v])=some v
 | _,[]=>rfl
 | _,x::l=>lastV_snoc v (some x) l
theorem wrV_snoc(v:Int):∀(p:Option Int) (l:List Int),wrV p (l++[v])=wrV p l++encV (lastV p l) v
 | p,[]=>by simp[wrV,lastV]
 | p,x::l=>by simp only[List.cons_append,wrV,wrV_snoc v (some x) l,lastV,List.append_assoc]
theorem wrV_take0{l:List Int}(h:0<l.length):wrV none (l.take 1)=wrV none (l.take 0)++zg l[0]:=by
 have:=wrV_snoc l[0] none (l.take 0)
 rw[<-List.take_succ_eq_append_getElem h] at this
 rw[this]
 simp[lastV,encV]
theorem wrV_take{l:List Int}{j:Nat}(h:j+1<l.length):wrV none (l.take (j+1+1))=wrV none (l.take (j+1))++leb (l[j+1] - l[j]):=by
 have:=wrV_snoc l[j+1] none (l.take (j+1))
 rw[<-List.take_succ_eq_append_getElem h] at this
 rw[this,List.take_succ_eq_append_getElem (show j<l.length by omega),lastV_snoc]
 rfl
theorem wrLs_append:∀(A B:LL),wrLs (A++B)=wrLs A++wrLs B
 | [],B=>rfl
 | a::A,B=>by rw[List.cons_append,wrLs,wrLs_append A B,wrLs,List.append_assoc]
theorem wrLs_take{L:LL}{j:Nat}(h:j<L.length):wrLs (L.take (j+1))=wrLs (L.take j)++wrL (lvl L j):=by
 rw[List.take_succ_eq_append_getElem h,wrLs_append,lvl_at h]
 simp[wrLs]
theorem encV_len(p:Option Int)(v:Int):1<=(encV p v).length/\(encV p v).length<=10:=by
 unfold encV
 split
 ·exact leb_len _
 ·exact leb_len _
theorem wrV_len:∀(p:Option Int) (l:List Int),(wrV p l).length<=10 * l.length
 | _,[]=>by simp[wrV]
 | p,v::l=>by
  have h1:=wrV_len (some v) l
  have h2:=encV_len p v
  simp only[wrV,List.length_append,List.length_cons]
  omega
theorem wrL_len(l:List Int):(wrL l).length<=10 * l.length+10:=by
 have h1:=wrV_len none l
 have h2:=leb_len (l.length:Int)
 unfold wrL
 rw[List.length_append];omega
theorem wrLs_len:∀(L:LL),(wrLs L).length<=10 * cnt L+10 * L.length
 | []=>by simp[wrLs]
 | l::L=>by
  have h1:=wrLs_len L
  have h2:=wrL_len l
  rw[wrLs,List.length_append,cnt_cons,List.length_cons];omega
theorem wrLs_take_len(L:LL)(j:Nat):(wrLs (L.take j)).length<=10 * cnt L+10 * L.length:=by
 have h1:=wrLs_len (L.take j)
 have h2:=cnt_append (L.take j) (L.drop j)
 rw[List.take_append_drop] at h2
 have h3:(L.take j).length<=L.length:=by rw[List.length_take];omega
 omega
theorem wrK_len(k:Int)(L:LL)(led:Nat):(wrK k L led).length<=10 * cnt L+10 * L.length+30:=by
 have h1:=wrLs_len L
 have h2:=leb_len k
 have h3:=leb_len (led:Int)
 have h4:=leb_len (L.length:Int)
 unfold wrK
 simp only[List.length_append];omega
def I64L(l:List Int):Prop:=∀x∈l,-9223372036854775808<=x/\x<=9223372036854775807
theorem wrV_by:∀(p:Option Int) (l:List Int),I64L l->(∀q,p=some q->-9223372036854775808<=q/\∀m∈l,q<=m)->Srt l->byL (wrV p l)
 | _,[],_,_,_=>fun b hb=>by simp[wrV] at hb
 | p,v::l,hr,hp,hs=>by
  have hv:=hr v (List.mem_cons_self ..)
  have hs':=List.pairwise_cons.1 hs
  simp only[wrV]
  refine byL.append ?_ (wrV_by (some v) l (fun x hx=>hr x (List.mem_cons_of_mem _ hx)) (fun q hq=>by cases hq;exact⟨hv.1,fun x hx=>hs'.1 x hx⟩) hs'.2)
  unfold encV
  cases p with
  | none=>exact leb_by (sgn_bd hv.1 hv.2).1 (sgn_bd hv.1 hv.2).2
  | some q=>have:=hp q rfl;have h2:=this.2 v (List.mem_cons_self ..);exact leb_by (by omega) (by omega)
theorem wrLs_by:∀(L:LL),(∀l∈L,I64L l/\Srt l/\l.length<18446744073709551616)->byL (wrLs L)
 | [],_=>fun b hb=>by simp[wrLs] at hb
 | l::L,h=>by
  obtain⟨h1,h2,h3⟩:=h l (List.mem_cons_self ..)
  rw[wrLs,wrL]
  exact byL.append (byL.append (leb_by (by omega) (by omega)) (wrV_by none l h1 (fun q hq=>by cases hq) h2)) (wrLs_by L fun x hx=>h x (List.mem_cons_of_mem _ hx))
theorem wrK_by{k:Int}{L:LL}{led:Nat}(k0:0<=k)(k1:k<18446744073709551616)(hl:led<18446744073709551616)(hL:L.length<18446744073709551616)(h:∀l∈L,I64L l/\Srt l/\l.length<18446744073709551616):byL (wrK k L led):=by
 unfold wrK
 exact byL.append (leb_by k0 k1) (byL.append (leb_by (by omega) (by omega)) (byL.append (leb_by (by omega) (by omega)) (wrLs_by L h)))
def rdN(m:Int)(l:List Int):Option (Int × List Int):=match unleb l with
 | none=>none
 | some p=>if p.1<=m then some p else none
def nxV(p:Option Int)(n:Int):Option Int:=match p with
 | none=>some (uns n)
 | some q=>if wrap64 ((ub q+n) % 18446744073709551616)<q then none else some (wrap64 ((ub q+n) % 18446744073709551616))
def rdVs:Nat->List Int->List Int->Option (List Int × List Int)
 | 0,acc,l=>some (acc,l)
 | k+1,acc,l=>match unleb l with
  | none=>none
  | some x=>match nxV acc.getLast? x.1 with
   | none=>none
   | some v=>rdVs k (acc++[v]) x.2
def rdLv(l:List Int):Option (List Int × List Int):=match rdN 4096 l with
 | none=>none
 | some x=>rdVs x.1.toNat [] x.2
def rdLs:Nat->LL->List Int->Option (LL × List Int)
 | 0,acc,l=>some (acc,l)
 | k+1,acc,l=>match rdLv l with
  | none=>none
  | some x=>rdLs k (acc++[x.1]) x.2
structure Rk where
 k:Int
 led:Int
 L:LL
def rdK(l:List Int):Option (Rk × List Int):=match rdN 4096 l with
 | none=>none
 | some a=>match unleb a.2 with
  | none=>none
  | some b=>match rdN 49 b.2 with
   | none=>none
   | some c=>match rdLs c.1.toNat [] c.2 with
    | none=>none
    | some x=>some (⟨a.1,b.1,x.1⟩,x.2)
theorem rdN_leb{m n:Int}(h0:0<=n)(h1:n<18446744073709551616)(r:List Int):rdN m (leb n++r)=if n<=m then some (n,r) else none:=by
 unfold rdN
 rw[unleb_leb h0 h1]
theorem rdVs_wrV(r:List Int):∀(l acc:List Int),I64L (acc++l)->Srt (acc++l)->rdVs l.length acc (wrV acc.getLast? l++r)=some (acc++l,r)
 | [],acc,_,_=>by simp[rdVs,wrV]
 | v::l,acc,hr,hs=>by
  have hv:=hr v (by simp)
  have h2:=rdVs_wrV r l (acc++[v]) (by simpa using hr) (by simpa using hs)
  rw[List.getLast?_concat] at h2
  simp only[List.length_cons,rdVs,wrV,List.append_assoc] at h2 |-
  cases hl:acc.getLast? with
  | none=>
   have sb:=sgn_bd hv.1 hv.2
   unfold encV zg
   simp only
   rw[unleb_leb sb.1 sb.2]
   simp only[nxV,uns_sgn]
   rw[h2];simp
  | some q=>
   have hq:q∈acc:=List.mem_of_getLast? hl
   have hqr:=hr q (by simp[hq])
   have hle:q<=v:=(List.pairwise_append.1 hs).2.2 q hq v (by simp)
   unfold encV
   simp only
   rw[unleb_leb (by omega) (by omega)]
   simp only[nxV,wrap_step hqr.1 hle hv.2]
   rw[if_neg (by omega)]
   simp only
   rw[h2];simp
theorem rdLv_wrL(r:List Int){l:List Int}(hr:I64L l)(hs:Srt l)(hl:l.length<=4096):rdLv (wrL l++r)=some (l,r):=by
 unfold rdLv wrL
 rw[List.append_assoc,rdN_leb (by omega) (by omega),if_pos (by omega)]
 simp only[Int.toNat_natCast]
 have:=rdVs_wrV r l [] (by simpa using hr) (by simpa using hs)
 simpa using this
theorem rdLs_wrLs(r:List Int):∀(L acc:LL),(∀l∈L,I64L l/\Srt l/\l.length<=4096)->rdLs L.length acc (wrLs L++r)=some (acc++L,r)
 | [],acc,_=>by simp[rdLs,wrLs]
 | l::L,acc,h=>by
  obtain⟨h1,h2,h3⟩:=h l (List.mem_cons_self ..)
  have ih:=rdLs_wrLs r L (acc++[l]) fun x hx=>h x (List.mem_cons_of_mem _ hx)
  rw[List.length_cons,rdLs,wrLs,List.append_assoc,rdLv_wrL _ h1 h2 h3]
  simp only
  rw[ih];simp
theorem rdK_wrK(r:List Int){k:Int}{L:LL}{led:Nat}(k0:0<=k)(k1:k<=4096)(hl:led<18446744073709551616)(hL:L.length<=49)(h:∀l∈L,I64L l/\Srt l/\l.length<=4096):rdK (wrK k L led++r)=some (⟨k,led,L⟩,r):=by
 unfold rdK wrK
 simp only[List.append_assoc]
 rw[rdN_leb k0 (by omega),if_pos k1]
 simp only
 rw[unleb_leb (by omega) (by omega)]
 simp only
 rw[rdN_leb (by omega) (by omega),if_pos (by omega)]
 simp only[Int.toNat_natCast]
 rw[rdLs_wrLs r L [] h]
 simp
end
section
open Go.RowKit Go.Lib
def Gave(e:Ending):Prop:=∃s,e=.panicked [{v:=.iface 329 (.string s),recovered:=false}]
def GotX{α:Type}(x:Option (α × List Int))(val:α->World->Value->Prop)(w:World)(g:Nat)(bs:List Int)(e:Ending)(w':World):Prop:=
 match x with
 | some p=>∃v,e=.returned v/\val p.1 w' v/\RdrAt w' g bs (bs.length - p.2.length)/\Touch (fun k=>k=g) w w'
 | none=>Gave e/\Touch (fun k=>k=g) w w'
theorem rdN_some{m:Int}{l:List Int}{p:Int × List Int}(h:rdN m l=some p):unleb l=some p/\p.1<=m:=by
 unfold rdN at h
 cases hu:unleb l with
 | none=>rw[hu] at h;cases h
 | some q=>
  rw[hu] at h
  simp only at h
  split at h
  ·rename_i hc
   injection h with h
   subst h
   exact⟨rfl,hc⟩
  ·cases h
theorem knum_gen(c m:Int)(f:Int->Int)(X:Option (Int × List Int))(gr g:Nat)(bs:List Int)(a:Nat)(w:World)(h:RdrAt w g bs a)(hc:w.cell? ⟨gr,0,none⟩=some (.pointer (some ⟨g,0,none⟩)))
 (hX:X=match unleb (bs.drop a) with|none=>none|some p=>if f p.1<=m then some p else none)
 (hn:∀w,RdrAt w g bs a->Calls Tryz.prog 208 #[.pointer (some ⟨g,0,none⟩),.int .u8 c] w (GotN w g bs a f)) :
 Calls Tryz.prog 288 #[.pointer (some ⟨gr,0,none⟩),.int .u8 c,.int .u64 m] w (GotX X (fun n _ v=>v=.int .u64 (f n)) w g bs):=by
 have HN:=Lib.hid (hn w h)
 clear h hn
 go_enter Tryz.func288,Tryz.ntmps288
 go_wp2_with fail
 refine(HN.out).mono ?_
 intro e w2 hg
 unfold GotN at hg
 cases hu:unleb (bs.drop a) with
 | none=>
  rw[hu] at hX
  simp only[hu] at hg
  have HX:=Lib.hid hX
  obtain⟨er,rfl,h2,h3,h4⟩:=hg
  have hne:(er != 0)=true:=by rcases h2 with rfl|rfl<;>rfl
  have T4:=Lib.hid h4
  clear hu h2 h3 h4 hX hc
  go_wp2_with fail
  refine⟨rfl,?_⟩
  unfold GotX
  rw[HX.out]
  exact⟨⟨_,rfl⟩,T4.out⟩
 | some p=>
  rw[hu] at hX
  simp only[hu] at hg hX
  obtain⟨rfl,h3,h4⟩:=hg
  have T4:=Lib.hid h4
  have H3:=Lib.hid h3
  obtain⟨n,r⟩:=p
  simp only at hX H3 |-
  by_cases hm:f n<=m
  ·rw[if_pos hm] at hX
   have HX:=Lib.hid hX
   have hm2:¬f n > m:=by omega
   clear hu h3 h4 hX hc
   go_wp2_with fail
   refine bodyPost_ret (by simp[results,Tryz.results288,go_sem, *];try rfl) rfl ?_
   unfold GotX
   rw[HX.out]
   exact⟨_,rfl,rfl,H3.out,T4.out⟩
  ·rw[if_neg hm] at hX
   have HX:=Lib.hid hX
   have hm2:f n > m:=by omega
   clear hu h3 h4 hX hc
   go_wp2_with fail
   refine⟨rfl,?_⟩
   unfold GotX
   rw[HX.out]
   exact⟨⟨_,rfl⟩,T4.out⟩
theorem knumv_any(m:Int)(gr g:Nat)(bs:List Int)(a:Nat)(w:World)(h:RdrAt w g bs a)(hc:w.cell? ⟨gr,0,none⟩=some (.pointer (some ⟨g,0,none⟩)))(hb:byL bs)(hlen:bs.length<=1000000000000) :
 Calls Tryz.prog 288 #[.pointer (some ⟨gr,0,none⟩),.int .u8 118,.int .u64 m] w (GotX (rdN m (bs.drop a)) (fun n _ v=>v=.int .u64 n) w g bs):=
 knum_gen 118 m id _ gr g bs a w h hc (by unfold rdN;rfl) (fun w h=>rnextv_any g bs a w h hb hlen)
theorem knumv64_any(gr g:Nat)(bs:List Int)(a:Nat)(w:World)(h:RdrAt w g bs a)(hc:w.cell? ⟨gr,0,none⟩=some (.pointer (some ⟨g,0,none⟩)))(hb:byL bs)(hlen:bs.length<=1000000000000) :
 Calls Tryz.prog 288 #[.pointer (some ⟨gr,0,none⟩),.int .u8 118,.int .u64 18446744073709551615] w (GotX (unleb (bs.drop a)) (fun n _ v=>v=.int .u64 n) w g bs):=
 knum_gen 118 _ id _ gr g bs a w h hc (by
  cases hu:unleb (bs.drop a) with
  | none=>rfl
  | some p=>have:=unleb_bd (hb.drop a) hu;simp only[id];rw[if_pos (by omega)]) (fun w h=>rnextv_any g bs a w h hb hlen)
theorem knumz_any(gr g:Nat)(bs:List Int)(a:Nat)(w:World)(h:RdrAt w g bs a)(hc:w.cell? ⟨gr,0,none⟩=some (.pointer (some ⟨g,0,none⟩)))(hb:byL bs)(hlen:bs.length<=1000000000000) :
 Calls Tryz.prog 288 #[.pointer (some ⟨gr,0,none⟩),.int .u8 122,.int .u64 18446744073709551615] w (GotX (unleb (bs.drop a)) (fun n _ v=>v=.int .u64 (ub (uns n))) w g bs):=
 knum_gen 122 _ (fun n=>ub (uns n)) _ gr g bs a w h hc (by
  cases hu:unleb (bs.drop a) with
  | none=>rfl
  | some p=>have:=ub_bd (uns p.1);simp only;rw[if_pos (by omega)]) (fun w h=>rnextz_any g bs a w h hb hlen)
theorem own_i64{base:Nat}{w:World}{v:Value}{l:List Int}:OwnI 2 .i64 base w v l<->OwnE i64E base w v l:=by
 unfold OwnE OwnI
 rw[cells_i64];rfl
theorem _root_.Go.Proofs.YtingnldfpokckaaGreat.OwnB.ne_I{b b':Nat}{w:World}{v u:Value}{bs:List Int}{l:List Int}(h:OwnB b w v bs)(ho:OwnI 2 .i64 b' w u l){k:Nat}(hk:v.ownBlock=some k):u.ownBlock≠some k:=by
 intro e
 rcases h.2 with h2|⟨g1,cap,cur,rfl,e2,e3,r⟩
 ·rw[h2.1] at hk;cases hk
 ·rcases ho.2 with h4|⟨g2,cap2,cur2,rfl,e5,e6,r2⟩
  ·rw[h4.1] at e;cases e
  ·cases hk
   cases e
   rw[e3] at e6
   cases e6
theorem _root_.Go.Proofs.YtingnldfpokckaaGreat.Blk.notI{w:World}{g t b:Nat}{cs:Array Value}{v:Value}{l:List Int}(h:Blk w g t cs)(ho:OwnI 2 .i64 b w v l)(ht:t≠2):v.ownBlock≠some g:=by
 intro e
 rcases ho.2 with h2|⟨g',cap,cur,rfl,e2,e3,r⟩
 ·rw[h2.1] at e;cases e
 ·cases e
  unfold Blk at h
  rw[h] at e3
  cases e3
  exact ht rfl
theorem _root_.Go.Proofs.YtingnldfpokckaaGreat.RdrAt.grownI{w w':World}{g:Nat}{bs:List Int}{a b:Nat}{u:Value}{l:List Int}(h:RdrAt w g bs a)(ho:OwnI 2 .i64 b w u l)(hg:w.grownBy w' u.ownBlock):RdrAt w' g bs a:=by
 obtain⟨v,h1,h2,h3⟩:=h
 exact⟨v,(hg.block g h1.lt (fun e=>h1.notI ho (by decide) e.symm)).trans h1,OwnI.stay h2 (fun k hk=>hg.block k (OwnI.lt h2 k hk).2 (fun e=>h2.ne_I ho hk e.symm)),h3⟩
theorem _root_.Go.Proofs.YtingnldfpokckaaGreat.OwnI.away{t:TypeId}{k:IntKind}{base g:Nat}{w w':World}{v:Value}{l:List Int}(h:OwnI t k base w v l)(ht:Touch (fun k=>k=g) w w')(hg:g<base):OwnI t k base w' v l:=
 h.stay fun k e=>ht.block k (h.lt k e).2 (fun e2=>by have:=(h.lt k e).1;omega)
theorem rdVs_step{k:Nat}{acc l:List Int}{T:Option (List Int × List Int)}(h:rdVs (k+1) acc l=T){x:Int × List Int}(hx:unleb l=some x){v:Int}(hv:nxV acc.getLast? x.1=some v):rdVs k (acc++[v]) x.2=T:=by
 rw[rdVs,hx] at h
 simp only[hv] at h
 exact h
theorem rdVs_stop{k:Nat}{acc l:List Int}{T:Option (List Int × List Int)}(h:rdVs (k+1) acc l=T)(hx:unleb l=none):T=none:=by
 rw[rdVs,hx] at h;exact h.symm
theorem rdVs_down{k:Nat}{acc l:List Int}{T:Option (List Int × List Int)}(h:rdVs (k+1) acc l=T){x:Int × List Int}(hx:unleb l=some x)(hv:nxV acc.getLast? x.1=none):T=none:=by
 rw[rdVs,hx] at h
 simp only[hv] at h
 exact h.symm
theorem I64L.snoc{l:List Int}{v:Int}(h:I64L l)(h0:-9223372036854775808<=v)(h1:v<=9223372036854775807):I64L (l++[v]):=fun x hx=>by
 rcases List.mem_append.1 hx with hx|hx
 ·exact h x hx
 ·simp only[List.mem_singleton] at hx;subst hx;exact⟨h0,h1⟩
theorem rlevel_any(gr g:Nat)(bs:List Int)(a:Nat)(w:World)(h:RdrAt w g bs a)(hc:w.cell? ⟨gr,0,none⟩=some (.pointer (some ⟨g,0,none⟩)))(hne:gr≠g)(hb:byL bs)(hlen:bs.length<=1000000000000) :
 Calls Tryz.prog 287 #[.pointer (some ⟨gr,0,none⟩)] w (GotX (rdLv (bs.drop a)) (fun l w' v=>OwnI 2 .i64 w.heap.size w' v l/\I64L l) w g bs):=by
 have H:=Lib.hid h
 have C0:=Lib.hid hc
 have hlt:=h.lt
 have hgr:gr<w.heap.size:=World.block_lt_of_cell? _ _ hc
 have HB:=Lib.hid hb
 have HN1:=Lib.hid (knumv_any 4096 gr g bs a w h hc hb hlen)
 clear h hb hc
 go_enter Tryz.func287,Tryz.ntmps287
 go_wp2_with fail
 refine(HN1.out).mono ?_
 intro e w2 hg
 unfold GotX at hg
 cases hu:rdN 4096 (bs.drop a) with
 | none=>
  simp only[hu] at hg
  have HU:Hid (rdLv (bs.drop a)=none):=Lib.hid (by unfold rdLv;rw[hu])
  obtain⟨⟨pv,rfl⟩,h4⟩:=hg
  have T4:=Lib.hid h4
  clear hu h4
  go_wp2_with fail
  refine⟨rfl,?_⟩
  unfold GotX
  rw[HU.out]
  exact⟨⟨_,rfl⟩,T4.out⟩
 | some p=>
  obtain⟨n0,r⟩:=p
  simp only[hu] at hg
  obtain⟨v,rfl,rfl,h3,h4⟩:=hg
  obtain⟨hx,hm⟩:=rdN_some hu
  have hbd:=unleb_bd (HB.out.drop a) hx
  have hsuf:=suf_unleb hx
  obtain⟨n,rfl⟩:∃n:Nat,n0=n:=⟨n0.toNat,by simp only at hbd;omega⟩
  simp only at hm hbd
  have T4:=Lib.hid h4
  have hz4:=h4.size
  obtain⟨T,hT⟩:∃T,rdLv (bs.drop a)=T:=⟨_,rfl⟩
  have HT:=Lib.hid hT
  have R0:Hid (rdVs n [] (bs.drop (bs.length - r.length))=T):=Lib.hid (by rw[hsuf,<-hT];unfold rdLv;rw[hu];simp)
  have H3:=Lib.hid h3
  have C2:Hid (w2.cell? ⟨gr,0,none⟩=some (.pointer (some ⟨g,0,none⟩))):=Lib.hid ((h4.cell (o:=0) hgr hne).trans C0.out)
  have hg2:g<w2.heap.size:=by omega
  have hgr2:gr<w2.heap.size:=by omega
  have hwn:(n:Int)<=4096:=by omega
  clear hu hT h3 h4 hx hsuf hbd
  generalize bs.length - r.length=a1 at *
  go_wp2_with fail
  go_loopg [3,4,5,6,10] n (fun q v _ _ _ i wr=>∃(j a':Nat) (acc:List Int),q=n - j/\j<=n/\i=.int .i64 j/\acc.length=j/\Hid (I64L acc)/\Hid (OwnI 2 .i64 w2.heap.size wr v acc)/\Hid (RdrAt wr g bs a')/\Hid (rdVs (n - j) acc (bs.drop a')=T)/\Hid (Touch (fun k=>k=g) w2 wr))
  case atStart=>exact⟨0,a1,[],rfl,by omega,rfl,rfl,Lib.hid (fun x hx=>by simp at hx),Lib.hid (OwnI.nil_ _ _ _ _),H3,R0,Lib.hid (Touch.refl _ _)⟩
  case round=>
   obtain⟨j,a',acc,hq,hj,rfl,hacc,HI,HO,HR,HS0,HTO⟩:=hrel
   have HQ:=Lib.hid hq
   have hzr:=HTO.out.size
   have cb:=(HTO.out.cell (o:=0) hgr2 hne).trans C2.out
   have hal:acc.length+1<=1099511627776:=by omega
   clear hq
   by_cases hlt2:j<n
   ·have hs':=HS0.out
    rw[show n - j=(n - (j+1))+1 by omega] at hs'
    have HS:=Lib.hid hs'
    have hji:(j:Int)<(n:Int):=by omega
    clear hs' HS0
    rcases Nat.eq_zero_or_pos j with rfl|hj0
    ·obtain rfl:acc=[]:=List.eq_nil_of_length_eq_zero hacc
     have HNZ:=Lib.hid (knumz_any gr g bs a' wr HR.out cb HB.out hlen)
     have z0:((0:Nat):Int)=0:=rfl
     rw[z0] at hji |-
     clear z0 cb
     go_wp2_with fail
     refine(HNZ.out).mono ?_
     intro e w3 hg
     unfold GotX at hg
     cases hA:unleb (bs.drop a') with
     | none=>
      simp only[hA] at hg
      have HU:Hid (T=none):=Lib.hid (rdVs_stop HS.out hA)
      obtain⟨⟨pv,rfl⟩,h4⟩:=hg
      have T5:=Lib.hid h4
      clear hA h4
      go_wp2_with fail
      refine⟨rfl,?_⟩
      unfold GotX
      rw[HT.out,HU.out]
      exact⟨⟨_,rfl⟩,tt (tt T4.out HTO.out) T5.out⟩
     | some p=>
      obtain⟨z,r1⟩:=p
      simp only[hA] at hg
      obtain⟨v,rfl,rfl,h3,h4⟩:=hg
      have zb:=unleb_bd (HB.out.drop a') hA
      have zu:=uns_bd zb.1 zb.2
      have zw:=wrap_ub zu.1 zu.2
      have E1:=suf_unleb hA
      have HNX:Hid (rdVs (n - (0+1)) ([]++[uns z]) (bs.drop (bs.length - r1.length))=T):=Lib.hid (by rw[E1];exact rdVs_step HS.out hA rfl)
      have HI1:=Lib.hid (HI.out.snoc zu.1 zu.2)
      have T5:=Lib.hid (tt HTO.out h4)
      have R3:=Lib.hid h3
      have O3:Hid (OwnI 2 .i64 w2.heap.size w3 u3 []):=Lib.hid (HO.out.away h4 hg2)
      have hz3:=h4.size
      clear hA h3 h4 zb E1
      simp only
      generalize bs.length - r1.length=a2 at *
      go_wp2_with (first
       | (at_builtin
          go_loud (refine append_I Tryz.underlying143 infoS rfl (.tmp 15) (.tmp 19) rfl w2.heap.size u3 [] rfl (O3.out.alloc _) _ [uns z] rfl (RdI.one_at _ _ _ _ _ rfl) (by simp) (by simp only[World.size_alloc];omega) ?_)
          intro v6 w6 o6 g6 a6
          have hb7:Below w3.heap.size w3 (w3.alloc (.cells #[.int .i64 (uns z)] 2)):=(Below.refl _ _).alloc (Nat.le_refl _) _
          have R6:Hid (RdrAt w6 g bs a2):=Lib.hid ((R3.out.keep hb7).grownI (O3.out.alloc _) g6)
          have T6:Hid (Touch (fun k=>k=g) w2 w6):=Lib.hid (((T5.out.alloc _).grown g6 (fun k e=>.inr (O3.out.lt k e).1)))
          have O6:=Lib.hid o6
          clear o6 g6 a6))
      go_roundg (n - (0+1))
      case measure=>have:=HQ.out;omega
      case rel=>exact⟨1,a2,[]++[uns z],rfl,by omega,by go_num,rfl,HI1,O6,R6,HNX,T6⟩
    ·obtain⟨s,rfl⟩:∃s,j=s+1:=⟨j - 1,by omega⟩
     have hsl:s<acc.length:=by omega
     obtain⟨A3,c3,hv3,m3,m4,f3⟩:=HO.out.rd.form
     obtain⟨ga,oa,eA,hga,ka⟩:=f3.at_ hsl
     have hla:acc.getLast?=some acc[s]:=by
      rw[List.getLast?_eq_getElem?,hacc];simp[List.getElem?_eq_getElem hsl]
     have hq:=HI.out acc[s] (List.getElem_mem hsl)
     obtain⟨q,hqq⟩:∃q,acc[s]=q:=⟨_,rfl⟩
     rw[hqq] at ka hla hq
     rw[hacc] at hv3 m3
     subst eA
     subst hv3
     have HNV:=Lib.hid (knumv64_any gr g bs a' wr HR.out cb HB.out hlen)
     have HLA:=Lib.hid hla
     have hs1:((s+1:Nat):Int) - 1=(s:Int):=by omega
     have hst:(s:Int)<(s:Int)+1:=by omega
     have ht0':((s+1:Nat):Int)≠0:=by omega
     have hws:IntKind.i64.wrap (s:Int)=(s:Int):=IntWalk.i64_in _ (by omega)
     clear cb f3 hla hqq
     go_wp2_with fail
     clear ka
     refine(HNV.out).mono ?_
     intro e w3 hg
     unfold GotX at hg
     cases hA:unleb (bs.drop a') with
     | none=>
      simp only[hA] at hg
      have HU:Hid (T=none):=Lib.hid (rdVs_stop HS.out hA)
      obtain⟨⟨pv,rfl⟩,h4⟩:=hg
      have T5:=Lib.hid h4
      clear hA h4
      go_wp2_with fail
      refine⟨rfl,?_⟩
      unfold GotX
      rw[HT.out,HU.out]
      exact⟨⟨_,rfl⟩,tt (tt T4.out HTO.out) T5.out⟩
     | some p=>
      obtain⟨z,r1⟩:=p
      simp only[hA] at hg
      obtain⟨v,rfl,rfl,h3,h4⟩:=hg
      have zb:=unleb_bd (HB.out.drop a') hA
      have E1:=suf_unleb hA
      have EW:Hid (wrap64 (IntKind.u64.wrap (IntKind.u64.wrap q+z))=wrap64 ((ub q+z) % 18446744073709551616)):=Lib.hid (by rw[u64w,u64w];rfl)
      have HNO:Hid (wrap64 ((ub q+z) % 18446744073709551616)<q->T=none):=Lib.hid fun h=>rdVs_down HS.out hA (by rw[HLA.out];unfold nxV;simp only;rw[if_pos h])
      have HYE:Hid (¬wrap64 ((ub q+z) % 18446744073709551616)<q->rdVs (n - (s+1+1)) (acc++[wrap64 ((ub q+z) % 18446744073709551616)]) (bs.drop (bs.length - r1.length))=T):=Lib.hid fun h=>by
       rw[E1]
       exact rdVs_step HS.out hA (by rw[HLA.out];unfold nxV;simp only;rw[if_neg h])
      have wb:-9223372036854775808<=wrap64 ((ub q+z) % 18446744073709551616)/\wrap64 ((ub q+z) % 18446744073709551616)<=9223372036854775807:=by unfold wrap64;omega
      obtain⟨x,hx⟩:∃x,wrap64 ((ub q+z) % 18446744073709551616)=x:=⟨_,rfl⟩
      rw[hx] at EW HNO HYE wb
      have HI1:=Lib.hid (HI.out.snoc wb.1 wb.2)
      have T5:=Lib.hid (tt HTO.out h4)
      have R3:=Lib.hid h3
      have O3:=Lib.hid (HO.out.away h4 hg2)
      have hz3:=h4.size
      clear hA h3 h4 zb E1 hx
      simp only
      generalize bs.length - r1.length=a2 at *
      have ew:=EW.out
      by_cases hlt:x<q
      ·have HU:=Lib.hid (HNO.out hlt)
       go_wp2_with fail
       refine⟨rfl,?_⟩
       unfold GotX
       rw[HT.out,HU.out]
       exact⟨⟨_,rfl⟩,tt T4.out T5.out⟩
      ·have HNX:=Lib.hid (HYE.out hlt)
       go_wp2_with (first
        | (at_builtin
           refine append_I Tryz.underlying143 infoS rfl (.tmp 36) (.tmp 38) rfl w2.heap.size _ acc rfl (O3.out.alloc _) _ [x] rfl (RdI.one_at _ _ _ _ _ rfl) (by omega) (by simp only[World.size_alloc];omega) ?_
           intro v6 w6 o6 g6 a6
           have hb7:Below w3.heap.size w3 (w3.alloc (.cells #[.int .i64 x] 2)):=(Below.refl _ _).alloc (Nat.le_refl _) _
           have R6:Hid (RdrAt w6 g bs a2):=Lib.hid ((R3.out.keep hb7).grownI (O3.out.alloc _) g6)
           have T6:Hid (Touch (fun k=>k=g) w2 w6):=Lib.hid (((T5.out.alloc _).grown g6 (fun k e=>.inr (O3.out.lt k e).1)))
           have O6:=Lib.hid o6
           clear o6 g6 a6))
       go_roundg (n - (s+1+1))
       case measure=>have:=HQ.out;omega
       case rel=>exact⟨s+1+1,a2,acc++[x],rfl,by omega,by go_num,by simp[hacc],HI1,O6,R6,HNX,T6⟩
   ·obtain rfl:j=n:=by omega
    have hs':=HS0.out
    rw[Nat.sub_self,rdVs] at hs'
    have HS:=Lib.hid hs'
    have R7:=Lib.hid HR.out
    clear hs' HS0
    go_wp2_with fail
    refine bodyPost_ret (by simp[results,Tryz.results287,go_sem, *];try rfl) rfl ?_
    unfold GotX
    rw[HT.out,<-HS.out]
    have ha':a'<=bs.length:=by obtain⟨_,_,_,h3⟩:=R7.out;exact h3
    refine⟨_,rfl,⟨OwnI.lift HO.out (fun k e=>Nat.le_trans hz4 (OwnI.lt HO.out k e).1),HI.out⟩,?_,tt T4.out HTO.out⟩
    simp only[List.length_drop]
    rw[show bs.length - (bs.length - a')=a' by omega]
    exact R7.out
end
section
open Go.RowKit Go.Lib
theorem kput_any(c n x:Int)(base:Nat)(vb:Value)(bs:List Int)(w:World)(hb0:base<=w.heap.size)(hO:OwnB base w vb bs)(hl:bs.length<=1000000000000)(hc:(c=118/\x=n/\0<=n/\n<18446744073709551616)\/(c=122/\n=ub x/\-9223372036854775808<=x/\x<=9223372036854775807)) :
 Calls Tryz.prog 158 #[vb,.int .u8 c,.int .u64 n] w fun e w'=>∃v,e=.returned v/\OwnB base w' v (bs++(if c=118 then leb x else zg x))/\Below base w w':=by
 have HO:=Lib.hid hO
 have C1:=Lib.hid (rone_any c n x w hc)
 have hlen:(if c=118 then leb x else zg x).length<=10:=by split;exact(leb_len _).2;exact(leb_len _).2
 generalize (if c=118 then leb x else zg x)=out at *
 clear hO hc
 go_enter Tryz.func158,Tryz.ntmps158
 go_wp2_with fail
 refine(C1.out).mono ?_
 rintro e w1 ⟨v1,rfl,o1,hb1⟩
 have O1:=Lib.hid o1
 have hz1:=hb1.size
 clear o1
 go_wp2_with (first
  | (at_builtin
     go_must (refine append_B rfl (.tmp 15) (.tmp 16) rfl base vb bs rfl (OwnI.keep HO.out hb1) v1 out rfl (OwnI.rd O1.out) (by omega) (by omega) ?_)
     intro v2 w2 o2 g2 a2
     have hb2:Below base w w2:=(hb1.mono hb0).grown g2 (by omega) (fun k hk=>(OwnI.lt HO.out k hk).1)
     have O2:=Lib.hid o2
     clear o2 g2 a2))
 go_ret
 exact⟨v2,rfl,O2.out,hb2⟩
theorem kputv_any(n:Int)(base:Nat)(vb:Value)(bs:List Int)(w:World)(hb0:base<=w.heap.size)(hO:OwnB base w vb bs)(hl:bs.length<=1000000000000)(n0:0<=n)(n1:n<18446744073709551616) :
 Calls Tryz.prog 158 #[vb,.int .u8 118,.int .u64 n] w fun e w'=>∃v,e=.returned v/\OwnB base w' v (bs++leb n)/\Below base w w':=by
 have h:=kput_any 118 n n base vb bs w hb0 hO hl (.inl ⟨rfl,rfl,n0,n1⟩)
 rwa [if_pos rfl] at h
theorem kputz_any(x n:Int)(base:Nat)(vb:Value)(bs:List Int)(w:World)(hb0:base<=w.heap.size)(hO:OwnB base w vb bs)(hl:bs.length<=1000000000000)(hn:n=ub x)(h0:-9223372036854775808<=x)(h1:x<=9223372036854775807) :
 Calls Tryz.prog 158 #[vb,.int .u8 122,.int .u64 n] w fun e w'=>∃v,e=.returned v/\OwnB base w' v (bs++zg x)/\Below base w w':=by
 have h:=kput_any 122 n x base vb bs w hb0 hO hl (.inr ⟨rfl,hn,h0,h1⟩)
 rwa [if_neg (by omega)] at h
theorem rwk_any(k:Int)(v:Value)(L:LL)(led:Nat)(w:World)(h:LLR w v L)(k0:0<=k)(k1:k<=9223372036854775807)(hled:led<18446744073709551616)(hlen:L.length<=1000)(hcnt:cnt L<=1000000000)(hs:∀j,Srt (lvl L j)/\I64L (lvl L j)) :
 Calls Tryz.prog 87 #[.int .i64 k,v,.int .u64 led] w fun e w'=>∃v,e=.returned v/\OwnB w.heap.size w' v (wrK k L led)/\Below w.heap.size w w':=by
 obtain⟨A,c,rfl,hc1,hc2⟩:=h.form
 have HL:=Lib.hid h
 have HS:=Lib.hid hs
 have HTL:=Lib.hid (fun j=>wrLs_take_len L j)
 have HLC:=Lib.hid (fun j=>lvl_le_cnt L j)
 have b1:=leb_len k
 have b2:=leb_len (led:Int)
 have b3:=leb_len (L.length:Int)
 have HALL:=Lib.hid (show wrK k L led=[]++leb k++leb led++leb L.length++wrLs (L.take L.length) by unfold wrK;simp)
 clear h hs
 go_enter Tryz.func87,Tryz.ntmps87
 go_wp2_with fail
 refine(kputv_any k w.heap.size _ [] w (Nat.le_refl _) (OwnI.nil_ _ _ _ _) (by simp) k0 (by omega)).mono ?_
 rintro e w1 ⟨v1,rfl,o1,hb1⟩
 have O1:=Lib.hid o1
 have hz1:=hb1.size
 clear o1
 go_wp2_with fail
 refine(kputv_any (led:Int) w.heap.size v1 ([]++leb k) w1 hz1 O1.out (by simp;omega) (by omega) (by omega)).mono ?_
 rintro e w2 ⟨v2,rfl,o2,hb2⟩
 have O2:=Lib.hid o2
 have HB2:=Lib.hid (hb1.trans hb2)
 have hz2:=HB2.out.size
 clear o2 hb1 hb2
 go_wp2_with fail
 refine(kputv_any (L.length:Int) w.heap.size v2 ([]++leb k++leb led) w2 hz2 O2.out (by simp;omega) (by omega) (by omega)).mono ?_
 rintro e w3 ⟨v3,rfl,o3,hb3⟩
 obtain⟨H,hH⟩:∃H,[]++leb k++leb led++leb (L.length:Int)=H:=⟨_,rfl⟩
 have hHl:H.length<=30:=by rw[<-hH];simp;omega
 rw[hH] at o3 HALL
 have O3:=Lib.hid o3
 have HB3:=Lib.hid (HB2.out.trans hb3)
 have hz3:=HB3.out.size
 clear o3 hb3 hH b1 b2 b3
 go_wp2_with fail
 go_loopg [7,8,9] L.length (fun q v i _ wr=>∃j:Nat,q=L.length - j/\j<=L.length/\i=.int .i64 (j:Int)/\Hid (OwnB w.heap.size wr v (H++wrLs (L.take j)))/\Hid (Below w.heap.size w wr))
 case atStart=>exact⟨0,by omega,by omega,rfl,Lib.hid (by simpa[wrLs] using O3.out),HB3⟩
 case round=>
  obtain⟨j,hq,hj,rfl,HO,HB⟩:=hrel
  have HQ:=Lib.hid hq
  clear hq
  have hz:=HB.out.size
  have htl:=HTL.out j
  by_cases hjl:j<L.length
  ·obtain⟨gl,off,sA,sc,eA,hgl,ca,ra⟩:=HL.out.at_ hjl
   subst eA
   obtain⟨_,_,ea,ha3,ha4,fa⟩:=ra.form
   injection ea with ea1 ea2 ea3
   subst ea1;subst ea3
   have HT:=Lib.hid (wrLs_take hjl)
   have hlc:=HLC.out j
   obtain⟨hsr,hbd⟩:=HS.out j
   have hbb:=leb_len ((lvl L j).length:Int)
   obtain⟨l,hl⟩:∃l,lvl L j=l:=⟨_,rfl⟩
   rw[hl] at ca fa HT hlc hsr hbd hbb ha3
   have FA:=Lib.hid fa
   have CA:=Lib.hid ca
   have HSR:=Lib.hid hsr
   have HBD:=Lib.hid hbd
   have c1:=(HB.out.cell (p:=⟨gl,off+j,none⟩) hgl).trans ca
   have hlen1:(H++wrLs (L.take j)).length<=20000000000:=by rw[List.length_append];omega
   have hji:(j:Int)<(L.length:Int):=by omega
   clear hl ra ea2 fa ca hsr hbd
   go_wp2_with fail
   refine(kputv_any (l.length:Int) w.heap.size u7 (H++wrLs (L.take j)) wr hz HO.out (by omega) (by omega) (by omega)).mono ?_
   rintro e w4 ⟨v4,rfl,o4,hb4⟩
   obtain⟨G,hG⟩:∃G,H++wrLs (L.take j)++leb (l.length:Int)=G:=⟨_,rfl⟩
   have hGl:G.length<=20000000010:=by rw[<-hG,List.length_append];omega
   have HGE:Hid (H++wrLs (L.take (j+1))=G++wrV none (l.take l.length)):=Lib.hid (by rw[HT.out,<-hG,wrL,List.take_length];simp)
   rw[hG] at o4
   have O4:=Lib.hid o4
   have HB4:=Lib.hid (HB.out.trans hb4)
   clear o4 hb4 hG hbb hlen1 c1 HT
   go_wp2_with fail
   go_loopg [7,9] l.length (fun q v i wr=>∃t:Nat,q=l.length - t/\t<=l.length/\i=.int .i64 (t:Int)/\Hid (OwnB w.heap.size wr v (G++wrV none (l.take t)))/\Hid (Below w.heap.size w wr))
   case atStart=>exact⟨0,by omega,by omega,rfl,Lib.hid (by simpa[wrV] using O4.out),HB4⟩
   case round=>
    obtain⟨t,hq2,ht,rfl,HO2,HB2⟩:=hrel
    have HQ2:=Lib.hid hq2
    clear hq2
    have hzw:=HB2.out.size
    have c1:=(HB2.out.cell (p:=⟨gl,off+j,none⟩) hgl).trans CA.out
    by_cases htl2:t<l.length
    ·obtain⟨ga,oa,eA,hga,ka⟩:=FA.out.i64 htl2
     subst eA
     have hx:=HBD.out l[t] (List.getElem_mem htl2)
     have hgt:(G++wrV none (l.take t)).length<=100000000000:=by
      have:=wrV_len none (l.take t)
      have h2:(l.take t).length<=l.length:=by rw[List.length_take];omega
      rw[List.length_append];omega
     have KA:=Lib.hid ka
     have hti:(t:Int)<(l.length:Int):=by omega
     rcases Nat.eq_zero_or_pos t with rfl|ht0
     ·have HTK:=Lib.hid (wrV_take0 htl2)
      have k1:=(HB2.out.cell (p:=⟨ga,oa+0,none⟩) hga).trans ka
      obtain⟨x,hxx⟩:∃x,l[0]=x:=⟨_,rfl⟩
      simp only[hxx,Nat.add_zero] at k1 hx HTK
      have z0:((0:Nat):Int)=0:=rfl
      rw[z0]
      clear hxx ka z0
      go_wp2_with fail
      refine(kputz_any x _ w.heap.size u7 (G++wrV none (l.take 0)) wr hzw HO2.out (by omega) (by rw[u64w];rfl) hx.1 hx.2).mono ?_
      rintro e w5 ⟨v5,rfl,o5,hb5⟩
      have O5:Hid (OwnB w.heap.size w5 v5 (G++wrV none (l.take 1))):=Lib.hid (by rw[HTK.out,<-List.append_assoc];exact o5)
      have HB5:=Lib.hid (HB2.out.trans hb5)
      clear o5 hb5
      go_wp2_with fail
      go_roundg (l.length - (0+1))
      case measure=>have:=HQ2.out;omega
      case rel=>exact⟨1,rfl,by omega,by go_num,O5,HB5⟩
     ·obtain⟨s,rfl⟩:∃s,t=s+1:=⟨t - 1,by omega⟩
      have hsl:s<l.length:=by omega
      have HTK:=Lib.hid (wrV_take htl2)
      obtain⟨ga',oa',eA,_,kb⟩:=FA.out.i64 hsl
      injection eA with eA
      injection eA with eA1 eA2
      subst eA1;subst eA2
      have hle:=srt_next HSR.out htl2
      have hy:=HBD.out l[s] (List.getElem_mem hsl)
      have KB:=Lib.hid kb
      obtain⟨x,hxx⟩:∃x,l[s+1]=x:=⟨_,rfl⟩
      obtain⟨y,hyy⟩:∃y,l[s]=y:=⟨_,rfl⟩
      simp only[hxx,hyy] at KA KB HTK hx hy hle
      have EW:=Lib.hid (show IntKind.u64.wrap (IntKind.u64.wrap x - IntKind.u64.wrap y)=x - y by simp only[u64w];omega)
      have hs1:((s+1:Nat):Int) - 1=(s:Int):=by omega
      have hst:(s:Int)<(l.length:Int):=by omega
      have ht0':((s+1:Nat):Int)≠0:=by omega
      have HWS:Hid (IntKind.i64.wrap (s:Int)=(s:Int)):=Lib.hid (IntWalk.i64_in _ (by omega))
      obtain⟨wo,rfl⟩:∃wo:World,wo=wr:=⟨_,rfl⟩
      clear hxx hyy ka kb
      go_upto_region 13 with fail
      clear c1
      have FBq:=Lib.hid (fun w' (hS':(fun w'=>Below w.heap.size w w') w')=>(And.intro ((hS'.cell (p:=⟨gl,off+j,none⟩) hgl).trans CA.out) (And.intro ((hS'.cell (p:=⟨ga,oa+(s+1),none⟩) hga).trans KA.out) (And.intro ((hS'.cell (p:=⟨ga,oa+s,none⟩) hga).trans KB.out) (And.intro (EW.out) (HWS.out))))))
      refine wp_region_plan (fun w'=>Below w.heap.size w w') [(0,true),(1,true),(2,true),(3,true),(4,true),(5,true),(6,true),(7,true),(8,true),(9,true),(10,true),(11,true),(12,true),(13,true),(14,true),(15,true),(16,true),(17,true),(18,true),(19,false),(20,true)] (by kernel_rfl) (by kernel_rfl) (HB2.out.drew) ?_
      iterate 19
       refine wpPlan_read (by rfl) (by rfl) (fun R hR=>?_)
       apply Exists.intro
       refine⟨fun w' hS'=>?_,?_⟩
       ·obtain⟨z1,z2,z3,ew,hws⟩:=FBq.out w' hS'
        go_simp
        exact⟨rfl,rfl⟩
       go_simp
       refine hR _ ?_
       clear hR R
      refine wpPlan_do (by rfl) (by rfl) (fun K hK=>?_)
      go_simp
      refine(kputv_any (x - y) w.heap.size u7 (G++wrV none (l.take (s+1))) wo.drew hzw (OwnI.drew HO2.out) (by omega) (by omega) (by omega)).mono ?_
      rintro e w5 ⟨v5,rfl,o5,hb5⟩
      have O5:Hid (OwnB w.heap.size w5 v5 (G++wrV none (l.take (s+1+1)))):=Lib.hid (by rw[HTK.out,<-List.append_assoc];exact o5)
      have HB5:Hid (Below w.heap.size w w5):=Lib.hid (HB2.out.drew.trans hb5)
      clear o5 hb5
      refine hK _ _ (HB5.out) ?_
      clear hK K
      iterate 1
       refine wpPlan_read (by rfl) (by rfl) (fun R hR=>?_)
       apply Exists.intro
       refine⟨fun w' hS'=>?_,?_⟩
       ·obtain⟨z1,z2,z3,ew,hws⟩:=FBq.out w' hS'
        go_simp
        exact⟨rfl,rfl⟩
       go_simp
       refine hR _ ?_
       clear hR R
      refine wpPlan_nil ?_
      go_wp2_with fail
      go_roundg (l.length - (s+1+1))
      case measure=>have:=HQ2.out;omega
      case rel=>exact⟨s+1+1,rfl,by omega,by go_num,O5,HB5⟩
    ·obtain rfl:t=l.length:=by omega
     go_wp2_with fail
     go_roundg (L.length - (j+1))
     case measure=>have:=HQ.out;omega
     case rel=>exact⟨j+1,rfl,by omega,by go_num,by rw[HGE.out];exact HO2,HB2⟩
  ·obtain rfl:j=L.length:=by omega
   go_wp2_with fail
   refine bodyPost_ret (by simp[results,Tryz.results87,go_sem, *];try rfl) rfl ?_
   exact⟨_,rfl,by rw[HALL.out];exact HO.out,HB.out⟩
end
section
open Go.RowKit Go.Lib
theorem wright3_any(w:World):Calls Tryz.prog 199 #[.string ⟨#[118,118,118]⟩] w fun e w'=>e=.returned (.bool true)/\Below w.heap.size w w':=by
 have FO:=fun w=>Lib.hid (formOf_any 7 118 w vz_v)
 go_enter Tryz.func199,Tryz.ntmps199
 go_wp2_with fail
 go_loopg [11] 3 (fun q i wr=>∃j:Nat,q=3 - j/\j<=3/\i=.int .i64 j/\Below w.heap.size w wr)
 case atStart=>exact⟨0,rfl,by omega,rfl,Below.refl _ _⟩
 case round=>
  obtain⟨j,hq,hj,rfl,hb⟩:=hrel
  have HQ:=Lib.hid hq
  have hz:=hb.size
  clear hq
  rcases(show j=0\/j=1\/j=2\/j=3 by omega) with rfl|rfl|rfl|rfl
  ·go_wp2_with (go_at_call 200;refine((FO _).out).mono ?_;rintro e w1 ⟨rfl,hb1⟩;have hz1:=hb1.size)
   go_roundg 2
   case measure=>have:=HQ.out;omega
   case rel=>exact⟨1,rfl,by omega,by go_num,by(repeat' (first|(with_reducible exact Below.refl _ _)|(with_reducible refine Below.alloc ?_ ?_ _)|(with_reducible refine Below.drew ?_)|(with_reducible refine below_drewN ?_ _)|(with_reducible refine Below.setCell ?_ ?_ _)|(with_reducible refine below_of (by assumption) ?_ ?_)|go_size))⟩
  ·go_wp2_with (go_at_call 200;refine((FO _).out).mono ?_;rintro e w1 ⟨rfl,hb1⟩;have hz1:=hb1.size)
   go_roundg 1
   case measure=>have:=HQ.out;omega
   case rel=>exact⟨2,rfl,by omega,by go_num,by(repeat' (first|(with_reducible exact Below.refl _ _)|(with_reducible refine Below.alloc ?_ ?_ _)|(with_reducible refine Below.drew ?_)|(with_reducible refine below_drewN ?_ _)|(with_reducible refine Below.setCell ?_ ?_ _)|(with_reducible refine below_of (by assumption) ?_ ?_)|go_size))⟩
  ·go_wp2_with (go_at_call 200;refine((FO _).out).mono ?_;rintro e w1 ⟨rfl,hb1⟩;have hz1:=hb1.size)
   go_roundg 0
   case measure=>have:=HQ.out;omega
   case rel=>exact⟨3,rfl,by omega,by go_num,by(repeat' (first|(with_reducible exact Below.refl _ _)|(with_reducible refine Below.alloc ?_ ?_ _)|(with_reducible refine Below.drew ?_)|(with_reducible refine below_drewN ?_ _)|(with_reducible refine Below.setCell ?_ ?_ _)|(with_reducible refine below_of (by assumption) ?_ ?_)|go_size))⟩
  ·go_wp2_with fail
   go_ret
   exact⟨rfl,hb⟩
def outs(a b c:Int):Nat->List Int
 | 0=>[]
 | 1=>leb a
 | 2=>leb a++leb b
 | _=>leb a++leb b++leb c
theorem outs_len(a b c:Int)(j:Nat):(outs a b c j).length<=30:=by
 have h1:=leb_len a
 have h2:=leb_len b
 have h3:=leb_len c
 match j with
 | 0=>simp[outs]
 | 1=>simp only[outs];omega
 | 2=>simp only[outs,List.length_append];omega
 | n+3=>simp only[outs,List.length_append];omega
theorem wput3_any(a b c:Int)(v:Value)(w:World)(hr:RdI .u64 w v [a,b,c])(a0:0<=a)(a1:a<18446744073709551616)(b0:0<=b)(b1:b<18446744073709551616)(c0:0<=c)(c1:c<18446744073709551616) :
 Calls Tryz.prog 113 #[.string ⟨#[118,118,118]⟩,v] w fun e w'=>∃v,e=.returned (.tuple #[v,.int .i64 0])/\OwnB w.heap.size w' v (outs a b c 3)/\Below w.heap.size w w':=by
 obtain⟨A,cn,rfl,hn,hc,hp⟩:=hr.form
 obtain⟨gn,on,rfl,hgn,hcn⟩:=hp.at_ (j:=0) (by simp)
 obtain⟨g',o',e',_,hcn1⟩:=hp.at_ (j:=1) (by simp)
 simp only[Option.some.injEq,Addr.mk.injEq,and_true] at e'
 obtain⟨rfl,rfl⟩:=e'
 obtain⟨g',o',e',_,hcn2⟩:=hp.at_ (j:=2) (by simp)
 simp only[Option.some.injEq,Addr.mk.injEq,and_true] at e'
 obtain⟨rfl,rfl⟩:=e'
 simp only[List.length_cons,List.length_nil,List.getElem_cons_zero,List.getElem_cons_succ,Nat.add_zero] at hn hcn hcn1 hcn2 |-
 have CN0:=Lib.hid hcn
 have CN1:=Lib.hid hcn1
 have CN2:=Lib.hid hcn2
 have FO:=fun w=>Lib.hid (formOf_any 7 118 w vz_v)
 have HF:=Lib.hid (fun(g:Nat) (n:Int) (bs:List Int) (W:World) h n0 n1 hl=>wleb_any g w.heap.size n 0 bs W h n0 n1 hl)
 have eg:∀args w,(callFunc 356 args).run Tryz.prog w=.ok (.enter 356 args) w:=fun _ _=>rfl
 have HO1:Hid (outs a b c 0++leb a=outs a b c 1):=Lib.hid rfl
 have HO2:Hid (outs a b c 1++leb b=outs a b c 2):=Lib.hid rfl
 have HO3:Hid (outs a b c 2++leb c=outs a b c 3):=Lib.hid rfl
 have HOL:=Lib.hid (outs_len a b c)
 have ef7:fPut 7=356:=rfl
 rw[ef7] at FO
 clear hr hp hcn hcn1 hcn2 ef7
 go_enter Tryz.func113,Tryz.ntmps113
 go_wp2_with fail
 refine(wright3_any w).mono ?_
 rintro e w1 ⟨rfl,hb1⟩
 have hz1:=hb1.size
 go_wp2_with fail
 obtain⟨g,hg⟩:∃g,w1.heap.size=g:=⟨_,rfl⟩
 have W0:=Lib.hid (Wr.new 291 w1 w.heap.size hz1)
 have hb2:Below w.heap.size w (w1.alloc (.cells #[.slice none 0 0] 291)):=by(repeat' (first|(with_reducible exact Below.refl _ _)|(with_reducible refine Below.alloc ?_ ?_ _)|(with_reducible refine Below.drew ?_)|(with_reducible refine below_drewN ?_ _)|(with_reducible refine Below.setCell ?_ ?_ _)|(with_reducible refine below_of (by assumption) ?_ ?_)|go_size))
 rw[hg] at W0 |-
 generalize w1.alloc (.cells #[.slice none 0 0] 291)=w2 at *
 clear hg
 go_loopg [25] 3 (fun q i wr=>∃j:Nat,q=3 - j/\j<=3/\i=.int .i64 j/\Hid (Wr 291 w.heap.size wr g (outs a b c j))/\Below w.heap.size w wr)
 case atStart=>exact⟨0,rfl,by omega,rfl,W0,hb2⟩
 case round=>
  obtain⟨j,hq,hj,rfl,hw,hb⟩:=hrel
  have HQ:=Lib.hid hq
  have hz:=hb.size
  clear hq
  rcases(show j=0\/j=1\/j=2\/j=3 by omega) with rfl|rfl|rfl|rfl
  ·have cn':=(hb.cell (p:=⟨gn,on,none⟩) hgn).trans CN0.out
   go_wp2_with (first
    | (go_at_call 200;refine((FO _).out).mono ?_;rintro e w3 ⟨rfl,hb3⟩;have hz3:=hb3.size)
    | (go_at_fn 356;refine((HF.out g a (outs a b c 0) _ ((hw.out.keep hb3).keep ((Below.refl _ _).alloc (Nat.le_refl _) _)) a0 a1 (by have:=HOL.out 0;omega)).mono ?_);rintro e w4 ⟨rfl,k1,k2⟩;have hz4:=k2.size;rw[HO1.out] at k1;have K1:=Lib.hid k1;clear k1))
   go_roundg 2
   case measure=>have:=HQ.out;omega
   case rel=>exact⟨1,rfl,by omega,by go_num,K1,by(repeat' (first|(with_reducible exact Below.refl _ _)|(with_reducible refine Below.alloc ?_ ?_ _)|(with_reducible refine Below.drew ?_)|(with_reducible refine below_drewN ?_ _)|(with_reducible refine Below.setCell ?_ ?_ _)|(with_reducible refine below_of (by assumption) ?_ ?_)|go_size))⟩
  ·have cn':=(hb.cell (p:=⟨gn,on+1,none⟩) hgn).trans CN1.out
   go_wp2_with (first
    | (go_at_call 200;refine((FO _).out).mono ?_;rintro e w3 ⟨rfl,hb3⟩;have hz3:=hb3.size)
    | (go_at_fn 356;refine((HF.out g b (outs a b c 1) _ ((hw.out.keep hb3).keep ((Below.refl _ _).alloc (Nat.le_refl _) _)) b0 b1 (by have:=HOL.out 1;omega)).mono ?_);rintro e w4 ⟨rfl,k1,k2⟩;have hz4:=k2.size;rw[HO2.out] at k1;have K1:=Lib.hid k1;clear k1))
   go_roundg 1
   case measure=>have:=HQ.out;omega
   case rel=>exact⟨2,rfl,by omega,by go_num,K1,by(repeat' (first|(with_reducible exact Below.refl _ _)|(with_reducible refine Below.alloc ?_ ?_ _)|(with_reducible refine Below.drew ?_)|(with_reducible refine below_drewN ?_ _)|(with_reducible refine Below.setCell ?_ ?_ _)|(with_reducible refine below_of (by assumption) ?_ ?_)|go_size))⟩
  ·have cn':=(hb.cell (p:=⟨gn,on+2,none⟩) hgn).trans CN2.out
   go_wp2_with (first
    | (go_at_call 200;refine((FO _).out).mono ?_;rintro e w3 ⟨rfl,hb3⟩;have hz3:=hb3.size)
    | (go_at_fn 356;refine((HF.out g c (outs a b c 2) _ ((hw.out.keep hb3).keep ((Below.refl _ _).alloc (Nat.le_refl _) _)) c0 c1 (by have:=HOL.out 2;omega)).mono ?_);rintro e w4 ⟨rfl,k1,k2⟩;have hz4:=k2.size;rw[HO3.out] at k1;have K1:=Lib.hid k1;clear k1))
   go_roundg 0
   case measure=>have:=HQ.out;omega
   case rel=>exact⟨3,rfl,by omega,by go_num,K1,by(repeat' (first|(with_reducible exact Below.refl _ _)|(with_reducible refine Below.alloc ?_ ?_ _)|(with_reducible refine Below.drew ?_)|(with_reducible refine below_drewN ?_ _)|(with_reducible refine Below.setCell ?_ ?_ _)|(with_reducible refine below_of (by assumption) ?_ ?_)|go_size))⟩
  ·obtain⟨hbg,v,hB,hO⟩:=hw.out
   have c0:=hB.cell 0
   simp only[List.getElem?_toArray,List.getElem?_cons_zero] at c0
   have HO:=Lib.hid hO
   clear hB hO
   go_wp2_with fail
   go_ret2
   exact⟨v,rfl,HO.out,hb⟩
theorem pput_any(pat:Value)(out:List Int)(base:Nat)(vb vn:Value)(bs:List Int)(w:World)(hb0:base<=w.heap.size)(hO:OwnB base w vb bs)(hl:bs.length<=1000000000000)(hout:out.length<=1000)
 (hp:Calls Tryz.prog 113 #[pat,vn] w fun e w'=>∃v,e=.returned (.tuple #[v,.int .i64 0])/\OwnB w.heap.size w' v out/\Below w.heap.size w w') :
 Calls Tryz.prog 123 #[vb,pat,vn] w fun e w'=>∃v,e=.returned v/\OwnB base w' v (bs++out)/\Below base w w':=by
 have HO:=Lib.hid hO
 have C1:=Lib.hid hp
 clear hO hp
 go_enter Tryz.func123,Tryz.ntmps123
 go_wp2_with fail
 refine(C1.out).mono ?_
 rintro e w1 ⟨v1,rfl,o1,hb1⟩
 have O1:=Lib.hid o1
 have hz1:=hb1.size
 clear o1
 go_wp2_with (first
  | (at_builtin
     go_must (refine append_B rfl (.tmp 15) (.tmp 16) rfl base vb bs rfl (OwnI.keep HO.out hb1) v1 out rfl (OwnI.rd O1.out) (by omega) (by omega) ?_)
     intro v2 w2 o2 g2 a2
     have hb2:Below base w w2:=(hb1.mono hb0).grown g2 (by omega) (fun k hk=>(OwnI.lt HO.out k hk).1)
     have O2:=Lib.hid o2
     clear o2 g2 a2))
 go_ret
 exact⟨v2,rfl,O2.out,hb2⟩
theorem pputv_any(n:Int)(base:Nat)(vb vn:Value)(bs:List Int)(w:World)(hb0:base<=w.heap.size)(hO:OwnB base w vb bs)(hl:bs.length<=1000000000000)(hr:RdI .u64 w vn [n])(n0:0<=n)(n1:n<18446744073709551616) :
 Calls Tryz.prog 123 #[vb,.string ⟨#[118]⟩,vn] w fun e w'=>∃v,e=.returned v/\OwnB base w' v (bs++leb n)/\Below base w w':=
 pput_any _ (leb n) base vb vn bs w hb0 hO hl (by have:=leb_len n;omega) (putv_any n vn w hr n0 n1)
theorem pputz_any(x:Int)(base:Nat)(vb vn:Value)(bs:List Int)(w:World)(hb0:base<=w.heap.size)(hO:OwnB base w vb bs)(hl:bs.length<=1000000000000)(hr:RdI .u64 w vn [ub x])(h0:-9223372036854775808<=x)(h1:x<=9223372036854775807) :
 Calls Tryz.prog 123 #[vb,.string ⟨#[122]⟩,vn] w fun e w'=>∃v,e=.returned v/\OwnB base w' v (bs++zg x)/\Below base w w':=
 pput_any _ (zg x) base vb vn bs w hb0 hO hl (by have:=leb_len (sgn x);unfold zg;omega) (putz_any x vn w hr h0 h1)
theorem pput3_any(a b c:Int)(base:Nat)(vb vn:Value)(bs:List Int)(w:World)(hb0:base<=w.heap.size)(hO:OwnB base w vb bs)(hl:bs.length<=1000000000000)(hr:RdI .u64 w vn [a,b,c])(a0:0<=a)(a1:a<18446744073709551616)(b0:0<=b)(b1:b<18446744073709551616)(c0:0<=c)(c1:c<18446744073709551616) :
 Calls Tryz.prog 123 #[vb,.string ⟨#[118,118,118]⟩,vn] w fun e w'=>∃v,e=.returned v/\OwnB base w' v (bs++outs a b c 3)/\Below base w w':=
 pput_any _ (outs a b c 3) base vb vn bs w hb0 hO hl (by have:=outs_len a b c 3;omega) (wput3_any a b c vn w hr a0 a1 b0 b1 c0 c1)
theorem _root_.Go.Proofs.YtingnldfpokckaaGreat.RdI.three_at(t:TypeId)(k:IntKind)(w:World)(a b c:Int)(H:Nat)(h:w.heap.size=H):RdI k (w.alloc (.cells #[.int k a,.int k b,.int k c] t)) (.slice (some ⟨H,0,none⟩) 3 3) [a,b,c]:=by
 subst h
 have h:OwnI t k w.heap.size (w.alloc (.cells #[.int k a,.int k b,.int k c] t)) (.slice (some ⟨w.heap.size,0,none⟩) 3 3) [a,b,c]:=
  ⟨rfl,.inr ⟨w.heap.size,3,_,rfl,Nat.le_refl _,heap_alloc_new _ _,by simp,by unfold maxLen;omega,rfl,by simp⟩⟩
 exact h.rd
theorem klevel_any(vb v:Value)(bs l:List Int)(w0 w:World)(hb:Below w0.heap.size w0 w)(hl:RdE i64E w0 v l)(hs:Srt l)(hbd:I64L l)(hn:l.length<=1000000000)(hO:OwnB w0.heap.size w vb bs)(hbs:bs.length<=100000000000) :
 Calls Tryz.prog 125 #[vb,v] w fun e w'=>∃v',e=.returned v'/\OwnB w0.heap.size w' v' (bs++wrL l)/\Below w0.heap.size w0 w':=by
 obtain⟨A,c,rfl,hc1,hc2,fa⟩:=hl.form
 have FA:=Lib.hid fa
 have HS:=Lib.hid hs
 have HBD:=Lib.hid hbd
 have HO:=Lib.hid hO
 have HB:=Lib.hid hb
 have hz:=hb.size
 have hbb:=leb_len (l.length:Int)
 clear hl hs hbd hO fa hb
 go_enter Tryz.func125,Tryz.ntmps125
 go_wp2_with fail
 refine(pputv_any (l.length:Int) w0.heap.size vb _ bs _ (by simp only[World.size_alloc];omega) (OwnI.alloc HO.out _) (by omega) (RdI.one_at _ _ _ _ _ rfl) (by omega) (by omega)).mono ?_
 rintro e w4 ⟨v4,rfl,o4,hb4⟩
 obtain⟨G,hG⟩:∃G,bs++leb (l.length:Int)=G:=⟨_,rfl⟩
 have hGl:G.length<=100000000010:=by rw[<-hG,List.length_append];omega
 have HGE:Hid (bs++wrL l=G++wrV none (l.take l.length)):=Lib.hid (by rw[<-hG,wrL,List.take_length];simp)
 rw[hG] at o4
 have O4:=Lib.hid o4
 have HB4:Hid (Below w0.heap.size w0 w4):=Lib.hid ((HB.out.alloc (by omega) _).trans hb4)
 clear o4 hb4 hG hbb
 go_wp2_with fail
 go_loopg [0,5,6,15] l.length (fun q v _ _ i wr=>∃t:Nat,q=l.length - t/\t<=l.length/\i=.int .i64 (t:Int)/\Hid (OwnB w0.heap.size wr v (G++wrV none (l.take t)))/\Hid (Below w0.heap.size w0 wr))
 case atStart=>exact⟨0,by omega,by omega,rfl,Lib.hid (by simpa[wrV] using O4.out),HB4⟩
 case round=>
  obtain⟨t,hq2,ht,rfl,HO2,HB2⟩:=hrel
  have HQ2:=Lib.hid hq2
  clear hq2
  have hzw:=HB2.out.size
  by_cases htl2:t<l.length
  ·obtain⟨ga,oa,eA,hga,ka⟩:=FA.out.i64 htl2
   subst eA
   have hx:=HBD.out l[t] (List.getElem_mem htl2)
   have hgt:(G++wrV none (l.take t)).length<=1000000000000:=by
    have:=wrV_len none (l.take t)
    have h2:(l.take t).length<=l.length:=by rw[List.length_take];omega
    rw[List.length_append];omega
   have hti:(t:Int)<(l.length:Int):=by omega
   have k1:=(HB2.out.cell (p:=⟨ga,oa+t,none⟩) hga).trans ka
   rcases Nat.eq_zero_or_pos t with rfl|ht0
   ·have HTK:=Lib.hid (wrV_take0 htl2)
    obtain⟨x,hxx⟩:∃x,l[0]=x:=⟨_,rfl⟩
    simp only[hxx,Nat.add_zero] at k1 hx HTK
    have z0:((0:Nat):Int)=0:=rfl
    rw[z0]
    clear hxx ka z0
    go_wp2_with fail
    refine(pputz_any x w0.heap.size u0 _ (G++wrV none (l.take 0)) _ (by simp only[World.size_alloc];omega) (OwnI.alloc HO2.out _) (by omega) (by rw[<-show IntKind.u64.wrap x=ub x from u64w x];exact RdI.one_at _ _ _ _ _ rfl) hx.1 hx.2).mono ?_
    rintro e w5 ⟨v5,rfl,o5,hb5⟩
    have O5:Hid (OwnB w0.heap.size w5 v5 (G++wrV none (l.take 1))):=Lib.hid (by rw[HTK.out,<-List.append_assoc];exact o5)
    have HB5:Hid (Below w0.heap.size w0 w5):=Lib.hid ((HB2.out.alloc (by omega) _).trans hb5)
    clear o5 hb5
    go_wp2_with fail
    go_roundg (l.length - (0+1))
    case measure=>have:=HQ2.out;omega
    case rel=>exact⟨1,rfl,by omega,by go_num,O5,HB5⟩
   ·obtain⟨s,rfl⟩:∃s,t=s+1:=⟨t - 1,by omega⟩
    have hsl:s<l.length:=by omega
    have HTK:=Lib.hid (wrV_take htl2)
    obtain⟨ga',oa',eA,_,kb⟩:=FA.out.i64 hsl
    injection eA with eA
    injection eA with eA1 eA2
    subst eA1;subst eA2
    have hle:=srt_next HS.out htl2
    have hy:=HBD.out l[s] (List.getElem_mem hsl)
    have k2:=(HB2.out.cell (p:=⟨ga,oa+s,none⟩) hga).trans kb
    obtain⟨x,hxx⟩:∃x,l[s+1]=x:=⟨_,rfl⟩
    obtain⟨y,hyy⟩:∃y,l[s]=y:=⟨_,rfl⟩
    simp only[hxx,hyy] at k1 k2 HTK hx hy hle
    have EW:=Lib.hid (show IntKind.u64.wrap (IntKind.u64.wrap x - IntKind.u64.wrap y)=x - y by simp only[u64w];omega)
    have hs1:((s+1:Nat):Int) - 1=(s:Int):=by omega
    have hst:(s:Int)<(l.length:Int):=by omega
    have ht0':((s+1:Nat):Int)≠0:=by omega
    have hws:IntKind.i64.wrap (s:Int)=(s:Int):=IntWalk.i64_in _ (by omega)
    clear hxx hyy ka kb
    go_wp2_with fail
    rw[EW.out]
    refine(pputv_any (x - y) w0.heap.size u0 _ (G++wrV none (l.take (s+1))) _ (by simp only[World.size_alloc];omega) (OwnI.alloc HO2.out _) (by omega) (RdI.one_at _ _ _ _ _ rfl) (by omega) (by omega)).mono ?_
    rintro e w5 ⟨v5,rfl,o5,hb5⟩
    have O5:Hid (OwnB w0.heap.size w5 v5 (G++wrV none (l.take (s+1+1)))):=Lib.hid (by rw[HTK.out,<-List.append_assoc];exact o5)
    have HB5:Hid (Below w0.heap.size w0 w5):=Lib.hid ((HB2.out.alloc (by omega) _).trans hb5)
    clear o5 hb5 hws
    go_wp2_with fail
    go_roundg (l.length - (s+1+1))
    case measure=>have:=HQ2.out;omega
    case rel=>exact⟨s+1+1,rfl,by omega,by go_num,O5,HB5⟩
  ·obtain rfl:t=l.length:=by omega
   go_wp2_with fail
   refine bodyPost_ret (by simp[results,Tryz.results125,go_sem, *];try rfl) rfl ?_
   exact⟨_,rfl,by rw[HGE.out];exact HO2.out,HB2.out⟩
theorem wrK_outs(k:Int)(L:LL)(led:Nat):wrK k L led=outs k led L.length 3++wrLs (L.take L.length):=by
 unfold wrK outs
 rw[List.take_length];simp
theorem LLO.rdAt{base:Nat}{w:World}{A:Option Addr}{n c:Nat}{vs:List Sv}{L:LL}(h:LLO base w (.slice A n c) vs L){j:Nat}(hj:j<L.length) :
 ∃gl off sA sc,A=some ⟨gl,off,none⟩/\gl<w.heap.size/\w.cell? ⟨gl,off+j,none⟩=some (.slice sA (lvl L j).length sc)/\RdE i64E w (.slice sA (lvl L j).length sc) (lvl L j):=h.llr.at_ hj
theorem kwrite_any{F:Nat->Prop}{g k n led a:Nat}{lv:Value}{vs:List Sv}{L:LL}(w:World)(hs:Kst F w g k n led lv vs L)(hok:PkOk (L,led,a))(hbd:∀j,I64L (lvl L j))(hk:k<=1000000) :
 Calls Tryz.prog 53 #[.pointer (some ⟨g,0,none⟩)] w fun e w'=>∃v,e=.returned (.tuple #[v,.int .i64 0])/\OwnB w.heap.size w' v (wrK k L led)/\Below w.heap.size w w':=by
 have hlenL:=hok.lenL
 have hcnt:=hok.cntL
 have hled:led<=4611686018427387904:=hok.led
 have HLV:=Lib.hid (levels_any w hs (by omega) (by omega))
 have HS:=Lib.hid (fun W (hb:Below w.heap.size w W)=>hs.keep hb)
 have HSR:=Lib.hid (fun j=>(hok.srt j:Srt (lvl L j)))
 have HBD:=Lib.hid hbd
 have HTL:=Lib.hid (fun j=>wrLs_take_len L j)
 have HLC:=Lib.hid (fun j=>lvl_le_cnt L j)
 have HALL:=Lib.hid (wrK_outs k L led)
 have hol:=outs_len k led L.length 3
 clear hs hok hbd
 go_enter Tryz.func53,Tryz.ntmps53
 go_wp2_with fail
 refine(HLV.out).mono ?_
 rintro e w1 ⟨v1,vs1,rfl,hlo,hb1⟩
 obtain⟨A1,c1,ev,hc1,hc2⟩:=hlo.llr.form
 subst ev
 have HLO:=Lib.hid hlo
 have HB1:=Lib.hid hb1
 have HS1:=Lib.hid (HS.out w1 hb1)
 have hz1:=hb1.size
 clear hlo hb1 HLV HS
 go_wp2_with fail
 refine(size_any w1 HS1.out).mono ?_
 rintro e w2 ⟨rfl,hw2⟩
 subst hw2
 go_wp2_with fail
 refine(ledger_any w1 HS1.out).mono ?_
 rintro e w2 ⟨rfl,hw2⟩
 subst hw2
 go_wp2_with fail
 refine(pput3_any k led L.length w1.heap.size _ _ [] _ (by simp) (OwnI.nil_ _ _ _ _) (by simp) (RdI.three_at _ _ _ _ _ _ _ rfl) (by omega) (by omega) (by omega) (by omega) (by omega) (by omega)).mono ?_
 rintro e w3 ⟨v3,rfl,o3,hb3⟩
 obtain⟨H,hH⟩:∃H,outs (k:Int) led L.length 3=H:=⟨_,rfl⟩
 rw[List.nil_append,hH] at o3
 rw[hH] at HALL hol
 have O3:=Lib.hid o3
 have HB3:Hid (Below w1.heap.size w1 w3):=Lib.hid (((Below.refl _ _).alloc (by omega) _).trans hb3)
 clear o3 hb3 hH
 go_wp2_with fail
 go_loopg [5,7,24] L.length (fun q v _ i wr=>∃j:Nat,q=L.length - j/\j<=L.length/\i=.int .i64 (j:Int)/\Hid (OwnB w1.heap.size wr v (H++wrLs (L.take j)))/\Hid (Below w1.heap.size w1 wr))
 case atStart=>exact⟨0,by omega,by omega,rfl,Lib.hid (by simpa[wrLs] using O3.out),HB3⟩
 case round=>
  obtain⟨j,hq,hj,rfl,HO,HB⟩:=hrel
  have HQ:=Lib.hid hq
  clear hq
  have hz:=HB.out.size
  have htl:=HTL.out j
  by_cases hjl:j<L.length
  ·obtain⟨gl,off,sA,sc,eA,hgl,ca,ra⟩:=HLO.out.rdAt hjl
   subst eA
   have HT:=Lib.hid (wrLs_take hjl)
   have hlc:=HLC.out j
   have k1:=(HB.out.cell (p:=⟨gl,off+j,none⟩) hgl).trans ca
   have HKL:=Lib.hid (klevel_any u5 _ (H++wrLs (L.take j)) (lvl L j) w1 wr HB.out ra (HSR.out j) (HBD.out j) (by omega) HO.out (by rw[List.length_append];omega))
   rw[List.append_assoc,<-HT.out] at HKL
   have hji:(j:Int)<(L.length:Int):=by omega
   clear ra ca
   go_wp2_with fail
   refine(HKL.out).mono ?_
   rintro e w4 ⟨v4,rfl,o4,hb4⟩
   have O4:=Lib.hid o4
   have HB4:=Lib.hid hb4
   clear o4 hb4
   go_wp2_with fail
   go_roundg (L.length - (j+1))
   case measure=>have:=HQ.out;omega
   case rel=>exact⟨j+1,rfl,by omega,by go_num,O4,HB4⟩
  ·obtain rfl:j=L.length:=by omega
   go_wp2_with fail
   refine bodyPost_ret (by simp[results,Tryz.results53,go_sem, *];try rfl) rfl ?_
   exact⟨_,rfl,by rw[HALL.out];exact OwnI.lift HO.out (fun k e=>Nat.le_trans hz1 (OwnI.lt HO.out k e).1),HB1.out.trans (HB.out.mono hz1)⟩
end
end Go.Proofs.YtingnldfpokckaaGreat.K
