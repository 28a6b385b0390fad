/- Rows of spans and of changes; script.fromPairs, walked. -/
import Derived.Test.YtfkfmokccekccaaGreatDoorKKRI
import Derived.Test.YtfkfmokccekccaaGreatDoorKS0
import Derived.ArgAppend
set_option linter.unusedVariables false
set_option linter.unusedSimpArgs false
namespace Go.VS
open Go.RowKit Go
theorem Afl{C:Ctx}{w:World}{k:Nat}{xs:List (List AV)}{a:Option Addr}{n c:Nat}{f:List Nat}(h:RV C w (.sl .brw k xs) (.slice a n c) f):n≤c∧(a=none→n=0∧c=0):=by
 generalize ha:AV.sl .brw k xs=x at h;generalize hv:Value.slice a n c=v at h
 cases h with
 |slNil τ k'=>cases hv;exact⟨Nat.le_refl _,fun _=>⟨rfl,rfl⟩⟩
 |shrE τ k' a' cap ht=>cases hv;exact⟨Nat.zero_le _,fun h=>nomatch h⟩
 |shr τ k' xs' b off cap cs e fz ht hz hi hb hs hc hk hr=>cases hv;exact⟨hc,fun h=>nomatch h⟩
 |own k' xs' b off cap cs e f' hb hs hc hm hk hr=>cases ha
 |_=>cases ha
end Go.VS
namespace Go.Proofs.Tryz
open Go.Shelf Go.RowKit Go.VS Go Go.Sort
def UB(x:Int×Int):List Value:=[.int .i64 x.1,.int .i64 x.2]
def Al7(x:Cz):List Value:=[.int .i64 x.1,.int .i64 x.2.1,.int .i64 x.2.2.1,.int .i64 x.2.2.2]
theorem XR(o:List (Int×Int))(x:Int×Int):(o.map UB).flatten++[.int .i64 x.1,.int .i64 x.2]=((o++[x]).map UB).flatten:=by
 rw[List.map_append,List.flatten_append];rfl
theorem AfZ(o:List Cz)(x:Cz):(o.map Al7).flatten++[.int .i64 x.1,.int .i64 x.2.1,.int .i64 x.2.2.1,.int .i64 x.2.2.2]=((o++[x]).map Al7).flatten:=by
 rw[List.map_append,List.flatten_append];rfl
def LS(w:World)(B:Nat)(v:Value)(l:List (Int×Int)):Prop:=w.ownsRow B 211 2 v l.length (l.map UB).flatten
def YK(w:World)(B:Nat)(v:Value)(l:List Cz):Prop:=w.ownsRow B 145 4 v l.length (l.map Al7).flatten
theorem Ane(B:Nat){ops:Array Oper}{rest:List Oper}{o:Oper}{a:Act}{Q:Exit→Act→World→Prop}{s x:Operand}{w1:World}{v:Value}{l:List (Int×Int)}{g:Nat}{p k:Int}
  (hgd:o.guard=none) (ho:o.op=.call {callee:=.builtin .append,args:=#[s,x],argTypes:=#[180,180]}) (hs:a.eval s=v) (hown:LS w1 B v l)
  (hx:a.eval x=.slice (some ⟨g,0,none⟩) 1 1) (hc0:w1.cell? ⟨g,0,none⟩=some (.int .i64 p)) (hc1:w1.cell? ⟨g,1,none⟩=some (.int .i64 k)) (hn:l.length≤100000000) (hB:B≤w1.heap.size)
  (hk:∀v' w',LS w' B v' (l++[(p,k)])→w1.grownBy w' v.ownBlock→wpList prog ops Q rest (a.put o.dst v') w'):wpList prog ops Q (o::rest) a w1:=by
 obtain⟨i0,hi,hz0,hz1,hz2⟩:=info_parts (P:=prog) (e:=211) (z:=.agg #[.int .i64 0,.int .i64 0]) (size:=2) (bytes:=16) (by kernel_rfl);refine wpList_append_own w1 hgd s x 180 ho B 211 i0 (.agg #[.int .i64 0,.int .i64 0]) 2 16 underlying180 hi hz0 hz1 hz2 rfl (by decide) v l.length _ hs hown ⟨g,0,none⟩ 1 1 [.int .i64 p,.int .i64 k] hx rfl ?_ ?_ ?_ ?_ hB ?_
 ·intro j u hj
  match j,hj with
  |0,hj=>
   have:Value.int .i64 p=u:=by simpa using hj
   subst this;exact hc0
  |1,hj=>
   have:Value.int .i64 k=u:=by simpa using hj
   subst this;exact hc1
  |j+2,hj=>simp at hj
 ·intro u hu;simp only[List.mem_cons,List.not_mem_nil,or_false]at hu
  rcases hu with rfl|rfl<;>rfl
 ·unfold maxLen;omega
 ·omega
 ·intro v' w' h1 h2 _;rw[XR l (p,k)]at h1;exact hk v' w' (by unfold LS;rw[List.length_append];exact h1) h2
theorem Anc(B:Nat){ops:Array Oper}{rest:List Oper}{o:Oper}{a:Act}{Q:Exit→Act→World→Prop}{s x:Operand}{w1:World}{v:Value}{l:List Cz}{g:Nat}{c:Cz}
  (hgd:o.guard=none) (ho:o.op=.call {callee:=.builtin .append,args:=#[s,x],argTypes:=#[99,99]}) (hs:a.eval s=v) (hown:YK w1 B v l)
  (hx:a.eval x=.slice (some ⟨g,0,none⟩) 1 1) (hc0:w1.cell? ⟨g,0,none⟩=some (.int .i64 c.1)) (hc1:w1.cell? ⟨g,1,none⟩=some (.int .i64 c.2.1)) (hc2:w1.cell? ⟨g,2,none⟩=some (.int .i64 c.2.2.1)) (hc3:w1.cell? ⟨g,3,none⟩=some (.int .i64 c.2.2.2)) (hn:l.length≤100000000) (hB:B≤w1.heap.size)
  (hk:∀v' w',YK w' B v' (l++[c])→w1.grownBy w' v.ownBlock→wpList prog ops Q rest (a.put o.dst v') w'):wpList prog ops Q (o::rest) a w1:=by
 obtain⟨i0,hi,hz0,hz1,hz2⟩:=info_parts (P:=prog) (e:=145) (z:=.agg #[.int .i64 0,.int .i64 0,.int .i64 0,.int .i64 0]) (size:=4) (bytes:=32) (by kernel_rfl)
 refine wpList_append_own w1 hgd s x 99 ho B 145 i0 (.agg #[.int .i64 0,.int .i64 0,.int .i64 0,.int .i64 0]) 4 32 underlying99 hi hz0 hz1 hz2 rfl (by decide) v l.length _ hs hown ⟨g,0,none⟩ 1 1 [.int .i64 c.1,.int .i64 c.2.1,.int .i64 c.2.2.1,.int .i64 c.2.2.2] hx rfl ?_ ?_ ?_ ?_ hB ?_
 ·intro j u hj
  match j,hj with
  |0,hj=>
   have:Value.int .i64 c.1=u:=by simpa using hj
   subst this;exact hc0
  |1,hj=>
   have:Value.int .i64 c.2.1=u:=by simpa using hj
   subst this;exact hc1
  |2,hj=>
   have:Value.int .i64 c.2.2.1=u:=by simpa using hj
   subst this;exact hc2
  |3,hj=>
   have:Value.int .i64 c.2.2.2=u:=by simpa using hj
   subst this;exact hc3
  |j+4,hj=>simp at hj
 ·intro u hu;simp only[List.mem_cons,List.not_mem_nil,or_false]at hu
  rcases hu with rfl|rfl|rfl|rfl<;>rfl
 ·unfold maxLen;omega
 ·omega
 ·intro v' w' h1 h2 _;rw[AfZ l c]at h1;exact hk v' w' (by unfold YK;rw[List.length_append];exact h1) h2
structure AfE(w:World)(a:Option Addr)(l:List (Int×Int)):Prop where
 at_:∀(k:Nat) (x:Int×Int),l[k]?=some x→∃b off,a=some ⟨b,off,none⟩∧b<w.heap.size∧w.cell? ⟨b,off+k*2,none⟩=some (.int .i64 x.1)∧w.cell? ⟨b,off+k*2+1,none⟩=some (.int .i64 x.2)
theorem AfE.below{w w':World}{a:Option Addr}{l:List (Int×Int)}(h:AfE w a l)(hb:Below w.heap.size w w'):AfE w' a l:=
 ⟨fun k x hk=>by
  obtain⟨b,off,h1,h2,h3,h4⟩:=h.at_ k x hk
  exact⟨b,off,h1,Nat.lt_of_lt_of_le h2 hb.size,(hb.cell (p:=⟨b,off+k*2,none⟩) h2).trans h3,(hb.cell (p:=⟨b,off+k*2+1,none⟩) h2).trans h4⟩⟩
theorem Aei{C:Ctx}{w:World}{l:List (Int×Int)}{v:Value}{f:List Nat}(h:RV C w (.sl .brw 2 (l.map ((BT.pair (.int .i64) (.int .i64)).enc .leaf))) v f):∃a c,v=.slice a l.length c∧AfE w a l∧l.length≤c∧(a=none→l=[]∧c=0):=by
 obtain⟨a,c,hv,hat⟩:=SK (t:=.pair (.int .i64) (.int .i64)) rfl h;subst hv;obtain⟨hc,hn⟩:=Afl h;refine⟨a,c,rfl,⟨fun k x hx=>?_⟩,hc,fun ha=>⟨List.length_eq_zero_iff.1 (hn ha).1,(hn ha).2⟩⟩;obtain⟨b,off,h1,h2,h3⟩:=hat k x hx;refine⟨b,off,h1,h2,?_,?_⟩
 ·have:=h3 0 (.int .i64 x.1) rfl;rw[show k*(BT.pair (.int IntKind.i64) (.int IntKind.i64)).size+0=k*2 from rfl]at this;exact this
 ·have:=h3 1 (.int .i64 x.2) rfl;rw[show off+(k*(BT.pair (.int IntKind.i64) (.int IntKind.i64)).size+1)=off+k*2+1 from rfl]at this;exact this
theorem Ach{w:World}{B:Nat}{v:Value}{l:List (Int×Int)}(h:LS w B v l):∃a c,v=.slice a l.length c∧AfE w a l:=by
 have h0:=h;obtain⟨hlen,h⟩:=h
 rcases h with⟨rfl,hn⟩|⟨g,cap,cur,rfl,hg,hb,hnc,hcm,hcs,htk⟩
 ·have hn:l=[]:=List.length_eq_zero_iff.1 hn;subst hn;exact⟨none,0,rfl,⟨fun k x hx=>nomatch hx⟩⟩
 ·refine⟨some ⟨g,0,none⟩,cap,rfl,⟨fun k x hx=>⟨g,0,rfl,(Array.getElem?_eq_some_iff.1 hb).1,?_,?_⟩⟩⟩
  ·have hk:=(List.getElem?_eq_some_iff.1 hx).1;have:=World.ownsRow.cellAt h0 (k*2+0) (by omega);rw[Oa (enc:=UB) (k:=2) (fun _=>rfl) l hx (by decide)]at this;rw[Nat.zero_add];exact this
  ·have hk:=(List.getElem?_eq_some_iff.1 hx).1;have:=World.ownsRow.cellAt h0 (k*2+1) (by omega);rw[Oa (enc:=UB) (k:=2) (fun _=>rfl) l hx (by decide)]at this;rw[Nat.zero_add];exact this
end Go.Proofs.Tryz
