/- Rows of spans and of changes; script.fromPairs, walked. -/
import Derived.Test.YtopngokkgogolaaGreatDoorKKRI
import Derived.Test.YtopngokkgogolaaGreatDoorKS0
import Derived.ArgAppend
set_option linter.unusedVariables false
set_option linter.unusedSimpArgs false
namespace Go.VS
open Go.RowKit Go
theorem Afw{C:Ctx}{w:World}{k:Nat}{xs:List (List AV)}{a:Option Addr}{n c:Nat}{f:List Nat}(h:RV C w (.sl .brw k xs) (.slice a n c) f):n≤c∧(a=none→n=0∧c=0):=by
 generalize ha:AV.sl .brw k xs=x at h;generalize hv:Value.slice a n c=v at h
 cases h with
 |slNil τ k'=>cases hv;exact⟨Nat.le_refl _,fun _=>⟨rfl,rfl⟩⟩
 |shrE τ k' a' cap ht=>cases hv;exact⟨Nat.zero_le _,fun h=>nomatch h⟩
 |shr τ k' xs' b off cap cs e fz ht hz hi hb hs hc hk hr=>cases hv;exact⟨hc,fun h=>nomatch h⟩
 |own k' xs' b off cap cs e f' hb hs hc hm hk hr=>cases ha
 |_=>cases ha
end Go.VS
namespace Go.Proofs.Tryz
open Go.Shelf Go.RowKit Go.VS Go Go.Sort
def VP(x:Int×Int):List Value:=[.int .i64 x.1,.int .i64 x.2]
def AlS(x:Qc):List Value:=[.int .i64 x.1,.int .i64 x.2.1,.int .i64 x.2.2.1,.int .i64 x.2.2.2]
theorem Yn(o:List (Int×Int))(x:Int×Int):(o.map VP).flatten++[.int .i64 x.1,.int .i64 x.2]=((o++[x]).map VP).flatten:=by
 rw[List.map_append,List.flatten_append];rfl
theorem Af4(o:List Qc)(x:Qc):(o.map AlS).flatten++[.int .i64 x.1,.int .i64 x.2.1,.int .i64 x.2.2.1,.int .i64 x.2.2.2]=((o++[x]).map AlS).flatten:=by
 rw[List.map_append,List.flatten_append];rfl
def M6(w:World)(B:Nat)(v:Value)(l:List (Int×Int)):Prop:=w.ownsRow B 175 2 v l.length (l.map VP).flatten
def Y8(w:World)(B:Nat)(v:Value)(l:List Qc):Prop:=w.ownsRow B 225 4 v l.length (l.map AlS).flatten
theorem Anl(B:Nat){ops:Array Oper}{rest:List Oper}{o:Oper}{a:Act}{Q:Exit→Act→World→Prop}{s x:Operand}{w1:World}{v:Value}{l:List (Int×Int)}{g:Nat}{p k:Int}
  (hgd:o.guard=none) (ho:o.op=.call {callee:=.builtin .append,args:=#[s,x],argTypes:=#[95,95]}) (hs:a.eval s=v) (hown:M6 w1 B v l)
  (hx:a.eval x=.slice (some ⟨g,0,none⟩) 1 1) (hc0:w1.cell? ⟨g,0,none⟩=some (.int .i64 p)) (hc1:w1.cell? ⟨g,1,none⟩=some (.int .i64 k)) (hn:l.length≤100000000) (hB:B≤w1.heap.size)
  (hk:∀v' w',M6 w' B v' (l++[(p,k)])→w1.grownBy w' v.ownBlock→wpList prog ops Q rest (a.put o.dst v') w'):wpList prog ops Q (o::rest) a w1:=by
 obtain⟨i0,hi,hz0,hz1,hz2⟩:=info_parts (P:=prog) (e:=175) (z:=.agg #[.int .i64 0,.int .i64 0]) (size:=2) (bytes:=16) (by kernel_rfl);refine wpList_append_own w1 hgd s x 95 ho B 175 i0 (.agg #[.int .i64 0,.int .i64 0]) 2 16 underlying95 hi hz0 hz1 hz2 rfl (by decide) v l.length _ hs hown ⟨g,0,none⟩ 1 1 [.int .i64 p,.int .i64 k] hx rfl ?_ ?_ ?_ ?_ hB ?_
 ·intro j u hj
  match j,hj with
  |0,hj=>
   have:Value.int .i64 p=u:=by simpa using hj
   subst this;exact hc0
  |1,hj=>
   have:Value.int .i64 k=u:=by simpa using hj
   subst this;exact hc1
  |j+2,hj=>simp at hj
 ·intro u hu;simp only[List.mem_cons,List.not_mem_nil,or_false]at hu
  rcases hu with rfl|rfl<;>rfl
 ·unfold maxLen;omega
 ·omega
 ·intro v' w' h1 h2 _;rw[Yn l (p,k)]at h1;exact hk v' w' (by unfold M6;rw[List.length_append];exact h1) h2
theorem Anj(B:Nat){ops:Array Oper}{rest:List Oper}{o:Oper}{a:Act}{Q:Exit→Act→World→Prop}{s x:Operand}{w1:World}{v:Value}{l:List Qc}{g:Nat}{c:Qc}
  (hgd:o.guard=none) (ho:o.op=.call {callee:=.builtin .append,args:=#[s,x],argTypes:=#[170,170]}) (hs:a.eval s=v) (hown:Y8 w1 B v l)
  (hx:a.eval x=.slice (some ⟨g,0,none⟩) 1 1) (hc0:w1.cell? ⟨g,0,none⟩=some (.int .i64 c.1)) (hc1:w1.cell? ⟨g,1,none⟩=some (.int .i64 c.2.1)) (hc2:w1.cell? ⟨g,2,none⟩=some (.int .i64 c.2.2.1)) (hc3:w1.cell? ⟨g,3,none⟩=some (.int .i64 c.2.2.2)) (hn:l.length≤100000000) (hB:B≤w1.heap.size)
  (hk:∀v' w',Y8 w' B v' (l++[c])→w1.grownBy w' v.ownBlock→wpList prog ops Q rest (a.put o.dst v') w'):wpList prog ops Q (o::rest) a w1:=by
 obtain⟨i0,hi,hz0,hz1,hz2⟩:=info_parts (P:=prog) (e:=225) (z:=.agg #[.int .i64 0,.int .i64 0,.int .i64 0,.int .i64 0]) (size:=4) (bytes:=32) (by kernel_rfl)
 refine wpList_append_own w1 hgd s x 170 ho B 225 i0 (.agg #[.int .i64 0,.int .i64 0,.int .i64 0,.int .i64 0]) 4 32 underlying170 hi hz0 hz1 hz2 rfl (by decide) v l.length _ hs hown ⟨g,0,none⟩ 1 1 [.int .i64 c.1,.int .i64 c.2.1,.int .i64 c.2.2.1,.int .i64 c.2.2.2] hx rfl ?_ ?_ ?_ ?_ hB ?_
 ·intro j u hj
  match j,hj with
  |0,hj=>
   have:Value.int .i64 c.1=u:=by simpa using hj
   subst this;exact hc0
  |1,hj=>
   have:Value.int .i64 c.2.1=u:=by simpa using hj
   subst this;exact hc1
  |2,hj=>
   have:Value.int .i64 c.2.2.1=u:=by simpa using hj
   subst this;exact hc2
  |3,hj=>
   have:Value.int .i64 c.2.2.2=u:=by simpa using hj
   subst this;exact hc3
  |j+4,hj=>simp at hj
 ·intro u hu;simp only[List.mem_cons,List.not_mem_nil,or_false]at hu
  rcases hu with rfl|rfl|rfl|rfl<;>rfl
 ·unfold maxLen;omega
 ·omega
 ·intro v' w' h1 h2 _;rw[Af4 l c]at h1;exact hk v' w' (by unfold Y8;rw[List.length_append];exact h1) h2
structure AfL(w:World)(a:Option Addr)(l:List (Int×Int)):Prop where
 at_:∀(k:Nat) (x:Int×Int),l[k]?=some x→∃b off,a=some ⟨b,off,none⟩∧b<w.heap.size∧w.cell? ⟨b,off+k*2,none⟩=some (.int .i64 x.1)∧w.cell? ⟨b,off+k*2+1,none⟩=some (.int .i64 x.2)
theorem AfL.below{w w':World}{a:Option Addr}{l:List (Int×Int)}(h:AfL w a l)(hb:Below w.heap.size w w'):AfL w' a l:=
 ⟨fun k x hk=>by
  obtain⟨b,off,h1,h2,h3,h4⟩:=h.at_ k x hk
  exact⟨b,off,h1,Nat.lt_of_lt_of_le h2 hb.size,(hb.cell (p:=⟨b,off+k*2,none⟩) h2).trans h3,(hb.cell (p:=⟨b,off+k*2+1,none⟩) h2).trans h4⟩⟩
theorem Aem{C:Ctx}{w:World}{l:List (Int×Int)}{v:Value}{f:List Nat}(h:RV C w (.sl .brw 2 (l.map ((BT.pair (.int .i64) (.int .i64)).enc .leaf))) v f):∃a c,v=.slice a l.length c∧AfL w a l∧l.length≤c∧(a=none→l=[]∧c=0):=by
 obtain⟨a,c,hv,hat⟩:=Un (t:=.pair (.int .i64) (.int .i64)) rfl h;subst hv;obtain⟨hc,hn⟩:=Afw h;refine⟨a,c,rfl,⟨fun k x hx=>?_⟩,hc,fun ha=>⟨List.length_eq_zero_iff.1 (hn ha).1,(hn ha).2⟩⟩;obtain⟨b,off,h1,h2,h3⟩:=hat k x hx;refine⟨b,off,h1,h2,?_,?_⟩
 ·have:=h3 0 (.int .i64 x.1) rfl;rw[show k*(BT.pair (.int IntKind.i64) (.int IntKind.i64)).size+0=k*2 from rfl]at this;exact this
 ·have:=h3 1 (.int .i64 x.2) rfl;rw[show off+(k*(BT.pair (.int IntKind.i64) (.int IntKind.i64)).size+1)=off+k*2+1 from rfl]at this;exact this
theorem Acl{w:World}{B:Nat}{v:Value}{l:List (Int×Int)}(h:M6 w B v l):∃a c,v=.slice a l.length c∧AfL w a l:=by
 have h0:=h;obtain⟨hlen,h⟩:=h
 rcases h with⟨rfl,hn⟩|⟨g,cap,cur,rfl,hg,hb,hnc,hcm,hcs,htk⟩
 ·have hn:l=[]:=List.length_eq_zero_iff.1 hn;subst hn;exact⟨none,0,rfl,⟨fun k x hx=>nomatch hx⟩⟩
 ·refine⟨some ⟨g,0,none⟩,cap,rfl,⟨fun k x hx=>⟨g,0,rfl,(Array.getElem?_eq_some_iff.1 hb).1,?_,?_⟩⟩⟩
  ·have hk:=(List.getElem?_eq_some_iff.1 hx).1;have:=World.ownsRow.cellAt h0 (k*2+0) (by omega);rw[LF (enc:=VP) (k:=2) (fun _=>rfl) l hx (by decide)]at this;rw[Nat.zero_add];exact this
  ·have hk:=(List.getElem?_eq_some_iff.1 hx).1;have:=World.ownsRow.cellAt h0 (k*2+1) (by omega);rw[LF (enc:=VP) (k:=2) (fun _=>rfl) l hx (by decide)]at this;rw[Nat.zero_add];exact this
end Go.Proofs.Tryz
