/- slices.Concat, walked: what all instances share; at pairs of strings. -/
import Derived.Test.YtopngokkgogolaaGreatDoorKKRW
import Derived.Test.YtopngokkgogolaaGreatDoorKKRI
import Derived.Test.YtopngokkgogolaaGreatDoorFwD
import Derived.Test.YtopngokkgogolaaGreatDoorKS0
import Derived.ArgAppend
import Derived.Lib.AppendZeros
import Derived.Laws.OwnMore
import Derived.WalkKit
import Derived.WalkSmall
import Derived.Sort.WalkA
import Derived.Test.YtopngokkgogolaaGreatDoorChecked
set_option linter.unusedVariables false
set_option linter.unusedSimpArgs false
open List renaming getElem?_eq_getElem → Qa0, length_append → Qa1, take_of_length_le → Qa3
open Nat renaming le_refl → Qa2
namespace Go.Proofs.Tryz
open Go.RowKit Go.VS Go Go.Sort
def Yd(w:World)(a:Option Addr)(cs:List Value):Prop:=∀(j:Nat) (u:Value),cs[j]?=some u→∃b off,a=some ⟨b,off,none⟩∧b<w.heap.size∧w.cell? ⟨b,off+j,none⟩=some u
theorem Yd.below{w w':World}{a:Option Addr}{cs:List Value}(h:Yd w a cs)(hb:Below w.heap.size w w'):Yd w' a cs:=fun j u hj=>by
 obtain⟨b,off,h1,h2,h3⟩:=h j u hj;exact⟨b,off,h1,Nat.lt_of_lt_of_le h2 hb.size,(hb.cell (p:=⟨b,off+j,none⟩) h2).trans h3⟩
def AcN(t:BT)(w:World)(a:Option Addr)(x:List (List t.D)):Prop:=∀(k:Nat) (l:List t.D),x[k]?=some l→∃b off a' c',a=some ⟨b,off,none⟩∧b<w.heap.size∧w.cell? ⟨b,off+k,none⟩=some (.slice a' l.length c')∧(a'=none→l=[]∧c'=0)∧Yd w a' (l.map t.fl).flatten
theorem Yq{α:Type}{enc:α→AV}:∀(l:List α),(l.map fun x=>[enc x]).flatten=l.map enc
 |[]=>rfl
 |x::l=>by rw[List.map_cons,List.flatten_cons,Yq l];rfl
theorem Ab9{t:BT}(ht:t.flat=true){C:Ctx}{w:World}{l:List t.D}{v:Value}{f:List Nat}(h:RV C w (.sl .brw t.size (l.map (t.enc .leaf))) v f):∃a c,v=.slice a l.length c∧(a=none→l=[]∧c=0)∧Yd w a (l.map t.fl).flatten:=by
 rcases Sw h with⟨hn,a,c,rfl⟩|⟨b,off,c,rfl,hb,hc⟩
 ·have hn:l=[]:=List.map_eq_nil_iff.1 hn;subst hn;refine⟨a,c,rfl,fun ha=>⟨rfl,?_⟩,fun j u hj=>nomatch hj⟩;subst ha;generalize ha:AV.sl .brw t.size (([]:List t.D).map (t.enc .leaf))=x at h;generalize hv:Value.slice none 0 c=v at h
  cases h with
  |slNil τ k'=>cases hv;rfl
  |shrE τ k' a' cap ht=>cases hv
  |shr τ k' xs' b off cap cs e fz ht hz hi hb hs hc hk hr=>cases hv
  |own k' xs' b off cap cs e f' hb hs hc hm hk hr=>cases ha
  |_=>cases ha
 ·refine⟨some ⟨b,off,none⟩,c,by rw[List.length_map],(fun h=>nomatch h),fun j u hj=>⟨b,off,rfl,hb,?_⟩⟩;obtain⟨u',g,h1,h2⟩:=hc j (AV.lit u) (by rw[Zo ht,List.getElem?_map,hj];rfl)
  rw[h1,RV.Dj h2]
theorem Su{t:BT}(ht:t.flat=true){C:Ctx}{w:World}{x:List (List t.D)}{v:Value}{f:List Nat}(h:RV C w (.sl .brw 1 (x.map fun l=>[AV.sl .brw t.size (l.map (t.enc .leaf))])) v f):∃a c,v=.slice a x.length c∧AcN t w a x:=by
 rcases Sw h with⟨hn,a,c,rfl⟩|⟨b,off,c,rfl,hb,hc⟩
 ·have hn:x=[]:=List.map_eq_nil_iff.1 hn;subst hn;exact⟨a,c,rfl,fun k s hk=>nomatch hk⟩
 ·refine⟨some ⟨b,off,none⟩,c,by rw[List.length_map],fun k l hl=>?_⟩;obtain⟨u,g,h1,h2⟩:=hc k (AV.sl .brw t.size (l.map (t.enc .leaf))) (by rw[Yq x,List.getElem?_map,hl];rfl)
  obtain⟨a',c',rfl,h3,h4⟩:=Ab9 ht h2;exact⟨b,off,a',c',rfl,hb,h1,h3,h4⟩
def AfJ(t:BT)(E:TypeId)(w:World)(B:Nat)(v:Value)(l:List t.D):Prop:=w.ownsRow B E t.size v l.length (l.map t.fl).flatten
theorem Aca{t:BT}(ht:t.flat=true){w w':World}{e:TypeId}{v:Value}{d:List t.D}{K:List t.D→Unit→Prop}(hown:AfJ t e w' w.heap.size v d)(hB:Below w.heap.size w w')(hK:K d ()):
  Below w.heap.size w w'∧∃(l:(BT.sl t).D) (d':Unit),K l d'∧∃(ns:Value) (f:List Nat) (z:Nat→Prop),(Ending.returned v=.returned ns)∧RVs (hctx (Pg.of prog).toProgram z) w' ((BT.sl t).enc (.node .own .leaf) l) [ns] f∧f.Nodup∧(∀b∈f,w.heap.size≤b∧b<w'.heap.size∧¬z b)∧(∀b,z b→w.heap.size≤b∧b<w'.heap.size):=by
 obtain⟨_,f,hnd,hfb,hrv⟩:=PD (t:=t) ht hown;refine⟨hB,d,(),hK,v,f,fun _=>False,rfl,?_,hnd,fun x hx=>⟨(hfb x hx).1,(hfb x hx).2,id⟩,fun _ h=>h.elim⟩;have:=RVs.cons _ _ _ _ _ _ (hrv (hctx prog fun _=>False)) .nil;rw[List.append_nil]at this;exact this
theorem AnU{vs:Array Value}{a:Value}(h:vs.size=1)(h0:vs.getD 0 undef=a):vs=#[a]:=by
 subst h0;apply Array.ext
 ·simpa using h
 ·intro i hi1 hi2
  have hi:i=0:=by simp at hi2;omega
  subst hi;simp[hi1]
theorem Anm{t:BT}(ht:t.flat=true)(h0:0<t.size){E T:TypeId}{i0:TypeInfo}{z:Value}{bytes:Nat}(und:prog.underlying T=some (.slice E))(hi:prog.info? E=some i0)(hz0:i0.zero=some z)(hz1:i0.size=t.size)(hz2:i0.bytes=bytes)(hz3:z.cells.size=t.size)(hby:bytes≤64)
  (B:Nat) {ops:Array Oper} {rest:List Oper} {o:Oper} {a:Act} {Q:Exit→Act→World→Prop} {s x:Operand} {w1:World} {v:Value} {l m:List t.D} {pa:Option Addr} {c:Nat}
  (hgd:o.guard=none) (ho:o.op=.call {callee:=.builtin .append,args:=#[s,x],argTypes:=#[T,T]}) (hs:a.eval s=v) (hown:AfJ t E w1 B v l)
  (hx:a.eval x=.slice pa m.length c) (hpn:pa=none→m=[]∧c=0) (hr:Yd w1 pa (m.map t.fl).flatten) (hn:l.length+m.length≤1000000) (hB:B≤w1.heap.size)
  (hk:∀v' w',AfJ t E w' B v' (l++m)→w1.grownBy w' v.ownBlock→wpList prog ops Q rest (a.put o.dst v') w'):wpList prog ops Q (o::rest) a w1:=by
 have hfl:∀m:List t.D,(m.map t.fl).flatten.length=m.length*t.size:=fun m=>by
  induction m with
  |nil=>simp
  |cons y m ih=>rw[List.map_cons,List.flatten_cons,Qa1,Vf t ht,ih,List.length_cons,Nat.add_mul];omega
 cases pa with
 |none=>
  obtain⟨rfl,rfl⟩:=hpn rfl;rw[List.append_nil]at hk;exact Lib.wpList_append_run w1 hgd s x T T ho v (.slice none 0 0) hs hx v w1 (run_append_owned_none w1 B T o.type E i0 t.size und hi v _ _ hown) (hk v w1 hown ⟨rfl,rfl,rfl,Qa2 _,fun _ _ _=>rfl⟩)
 |some ad=>
  refine wpList_append_own w1 hgd s x T ho B E i0 z t.size bytes und hi hz0 hz1 hz2 hz3 h0 v l.length _ hs hown ad m.length c (m.map t.fl).flatten hx (hfl m) (fun j u hj=>?_) (fun u hu=>by grind [Rv]) ?_ ?_ hB fun v' w' h1 h2 _=>?_
  ·obtain⟨b,off,e,_,hc⟩:=hr j u hj;cases e;rw[Addr.add_lit];exact hc
  ·unfold maxLen;omega
  ·have:(l.length+m.length)*bytes≤1000000*64:=Nat.mul_le_mul hn hby;omega
  ·refine hk v' w' ?_ h2;unfold AfJ;rw[Qa1,List.map_append,List.flatten_append];exact h1
theorem Wd{w:World}{E:TypeId}{size:Nat}{z:Value}{n c:Nat}(hz:z.cells.size=size)(hn:n≤c)(hc:c≤maxLen):
  (w.drew.alloc (.cells (Builtin.zeroCells z.cells n++Builtin.zeroCells z.cells (c -n)) E)).ownsRow w.heap.size E size (.slice (some ⟨w.heap.size,0,none⟩) 0 c) 0 []:=
 ⟨by simp,.inr ⟨w.heap.size,c,_,rfl,Qa2 _,heap_alloc_new w.drew _,Nat.zero_le _,hc,by
  simp only[Array.size_append,size_zeroCells,hz,←Nat.add_mul]
  congr 1
  omega,by simp⟩⟩
theorem PG{α:Type}{x:List (List α)}{k:Nat}{l:List α}(h:x[k]?=some l):(x.take (k+1)).flatten=(x.take k).flatten++l:=by
 obtain⟨hk,rfl⟩:=List.getElem?_eq_some_iff.1 h;rw[List.take_succ_eq_append_getElem hk,List.flatten_append];simp
theorem Ae1{α:Type}{x:List (List α)}(hx:x.length≤1000)(hl:∀l∈x,l.length≤1000)(k:Nat):(x.take k).flatten.length≤1000000:=by
 have h1:=Tq (x:=x.take k) (B:=1000) fun l h=>hl l (List.mem_of_mem_take h)
 have h2:(x.take k).length≤1000:=by rw[List.length_take];omega
 have:=Nat.mul_le_mul_right 1000 h2;omega
set_option maxHeartbeats 2000000 in
set_option maxRecDepth 100000 in
theorem Aba(n:Nat)(hn:n≤1000000)(w:World):Calls prog 197 #[.slice none 0 0,.int .i64 n] w fun e w'=>∃v,e=.returned v∧w'.ownsRow w.heap.size 146 2 v 0 []∧Below w.heap.size w w':=by
 obtain⟨i0,hi,hz0,hz1,hz2⟩:=info_parts (P:=prog) (e:=146) (z:=.agg #[.string ⟨#[]⟩,.string ⟨#[]⟩]) (size:=2) (bytes:=32) (by kernel_rfl)
 by_cases h0:n=0
 ·subst h0
  go_enter func197,ntmps197
  go_wp2
  go_ret
  exact⟨_,rfl,World.ownsRow_nil _ _ _ _,Below.refl _ w⟩
 ·have hp:0<n:=by omega
  go_enter func197,ntmps197
  go_wp2_with (at_builtin;refine Lib.wpList_append_run _ rfl _ _ 182 3 rfl _ _ rfl rfl _ _ (Lib.run_append_nil_zeros w 182 3 _ 146 i0 _ _ _ underlying182 underlying3 hi hz0 n hp (by rw[hz1];decide) (by omega) (by rw[hz2];omega)) ?_)
  have hge:=grownCap_ge w n 0 146;have hcm:grownCap w n 0 146≤maxLen:=grownCap_le_maxLen w n 0 146 (by unfold maxLen;omega)
  generalize grownCap w n 0 146=c at hge hcm
  go_wp2
  go_ret
  exact⟨_,rfl,Wd (z:=.agg #[.string ⟨#[]⟩,.string ⟨#[]⟩]) rfl hge hcm,((Below.refl _ w).drew).alloc (Qa2 _) _⟩
abbrev Ahk(w:World)(B:Nat)(v:Value)(l:List Gh):Prop:=AfJ (.pair .str .str) 146 w B v l
set_option maxHeartbeats 4000000 in
set_option maxRecDepth 100000 in
theorem XJ(x:List (List Gh))(pa:Option Addr)(ca:Nat)(w:World)(hx:x.length≤1000)(hl:∀l∈x,l.length≤1000)(hv:AcN (.pair .str .str) w pa x):
  Calls prog 127 #[.slice pa x.length ca] w fun e w'=>∃v,e=.returned v∧Ahk w' w.heap.size v x.flatten∧Below w.heap.size w w':=by
 obtain⟨i0,hi,hz0,hz1,hz2⟩:=info_parts (P:=prog) (e:=146) (z:=.agg #[.string ⟨#[]⟩,.string ⟨#[]⟩]) (size:=2) (bytes:=32) (by kernel_rfl);have hfl:=Ae1 hx hl
 go_enter func127,ntmps127
 go_wp2
 go_loopw [3,11] (fun s i wr=>∃k:Nat,k≤x.length∧i=.int .i64 k∧s=.int .i64 ((x.take k).flatten.length:Nat)∧w=wr) (fun _ i _=>x.length -(Lib.intOf i).toNat)
 case atStart=>exact⟨0,Nat.zero_le _,rfl,rfl,rfl⟩
 case round=>
  obtain⟨k,hk,hi2,hs,hw⟩:=hrel;subst hi2 hs hw;have hk0:=hfl k
  by_cases hks:k<x.length
  ·obtain⟨b,off,a',c',rfl,hb,hc,-,-⟩:=hv k x[k] (Qa0 hks);have hnx:=congrArg List.length (PG (Qa0 hks));rw[Qa1]at hnx;have hk1:=hfl (k+1);rw[hnx]at hk1;generalize x[k]=l at hc hnx hk1;generalize(x.take k).flatten.length=m0 at hnx hk0 hk1;clear hfl hv hl
   go_wp2
   go_roundw
   case rel=>exact⟨k+1,by omega,by simp,by rw[hnx];simp,trivial⟩
   case measure=>simp only[Lib.intOf];omega
  ·have hke:k=x.length:=by omega
   subst hke;rw[Qa3 (Qa2 _)]at hk0⊢;generalize x.flatten.length=N at hk0⊢;have hg:=Aba N hk0 w
   go_wp2_with (go_at_call 197;refine hg.mono ?_;rintro e w1 ⟨v1,rfl,hown1,hB1⟩)
   have hC0:Ahk w1 w.heap.size v1 ((x.take 0).flatten):=hown1;clear hown1 hg
   go_loopw [6,27] (fun v i wr=>∃k:Nat,k≤x.length∧i=.int .i64 k∧Ahk wr w.heap.size v ((x.take k).flatten)∧Below w.heap.size w wr) (fun _ i _=>x.length -(Lib.intOf i).toNat)
   case atStart=>exact⟨0,Nat.zero_le _,rfl,hC0,hB1⟩
   case round=>
    clear hC0 hB1;obtain⟨k,hk,hi2,hC,hB⟩:=hrel;subst hi2
    by_cases hks:k<x.length
    ·obtain⟨b,off,a',c',rfl,hb,hc,hn0,hr⟩:=hv k x[k] (Qa0 hks);have hc1:=(hB.cell (p:=⟨b,off+k,none⟩) hb).trans hc;have hnx:=PG (Qa0 hks);have hk1:=hfl (k+1);rw[hnx,Qa1]at hk1;have hr1:=hr.below hB;have hsz:=hB.size;generalize x[k]=l at hc1 hn0 hr1 hnx hk1
     generalize(x.take k).flatten=m0 at hnx hk1 hC;clear hfl hv hl hc hr
     go_wp2_with (at_builtin;refine Anm (t:=.pair .str .str) rfl (by decide) underlying182 hi hz0 hz1 hz2 rfl (by decide) w.heap.size (l:=m0) (m:=l) rfl rfl rfl hC rfl hn0 hr1 hk1 hsz ?_)
     intro v2 w2 hown2 hg2;have hB2:=below_grow hB hg2 (fun i h=>(World.ownsRow.lt hC i h).1) (Qa2 _)
     go_wp2
     go_roundw
     case rel=>exact⟨k+1,by omega,by simp,by rw[hnx];exact hown2,hB2⟩
     case measure=>simp only[Lib.intOf];omega
    ·have hke:k=x.length:=by omega
     subst hke;rw[Qa3 (Qa2 _)]at hC
     go_wp2
     go_ret
     exact⟨_,rfl,hC,hB⟩
theorem Adn:Ka (Pg.of prog):=by
 intro x hx hl
 refine Fn.R7 (ps:=Bk.ps) (t:=.pair .str .str) (tt:=.node .own .leaf) rfl rfl x fun f fn hf hfn=>?_
 have hfi:f=127:=E3 (by kernel_rfl) hf hfn;subst hfi;have hfe:=Option.some.inj (hf.symm.trans func127);subst hfe;refine⟨by kernel_rfl,by kernel_rfl,fun μ sv w vs hsv hw hargs=>?_⟩;have hsv:svs μ dv dl [.one (.sl .brw (.node .brw .leaf) (.sl (.pair .str .str)) x)] sv:=hsv
 match sv,hsv with
 |[s0],⟨⟨a0,e0,r0⟩,_⟩=>
  have r0:a0=.sl .brw 1 (x.map fun l=>[AV.sl .brw (BT.pair .str .str).size (l.map ((BT.pair .str .str).enc .leaf))]):=r0;subst e0 r0;obtain⟨hsize,hat⟩:=hargs;obtain⟨C0,f0,_,h0⟩:=hat 0 _ rfl
  obtain⟨pa,ca,hv0,hva⟩:=Su (t:=.pair .str .str) rfl (show RV C0 w (.sl .brw 1 (x.map fun l=>[AV.sl .brw (BT.pair .str .str).size (l.map ((BT.pair .str .str).enc .leaf))])) (vs.getD 0 undef) f0 from h0);have hvs:=AnU hsize hv0;subst hvs;refine(XJ x pa ca w hx hl hva).mono ?_;rintro e w' ⟨v,rfl,hown,hB⟩;exact Aca (t:=.pair .str .str) rfl hown hB rfl
end Go.Proofs.Tryz
