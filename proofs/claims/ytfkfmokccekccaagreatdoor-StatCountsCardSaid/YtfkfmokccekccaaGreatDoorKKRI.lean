/- Rows of one cell an element: sorted, compacted, cut down by the library; as lists. -/
import Derived.Test.YtfkfmokccekccaaGreatDoorKKY
import Derived.Test.YtfkfmokccekccaaGreatDoorKKShelf
import Derived.Test.YtfkfmokccekccaaGreatDoorKS0
import Derived.Sort.OwnSorted
import Derived.Lib.SlicesCompact
import Derived.WalkSmall
import Derived.Deep.QuietTactic
import Derived.BigQuiet
set_option linter.unusedVariables false
set_option linter.unusedSimpArgs false
set_option linter.unusedSectionVars false
open List renaming getElem?_take_of_lt → Qa0, getElem?_take_eq_none → Qa1, getElem?_map → Qa2, getElem?_eq_getElem → Qa3
open Array renaming getElem?_toList → Qa4, getElem?_modify → Qa5
namespace Go.VS
open Go.RowKit Go Go.Sort Go.Proofs Go.Shelf
section
variable{α:Type}[Inhabited α]{enc:α→Value}
theorem Aa0{l:List α}{j:Nat}(h:j<l.length):l.toArray[j]! =l[j]:=by
 rw[getElem!_pos _ j (by simpa using h)];simp
theorem Am6{w:World}{g:Nat}{cur:Array Value}{e:TypeId}{l:List α}(hb:w.heap[g]?=some (.cells cur e (0,0)))(ht:cur.toList.take l.length=l.map enc):Holds enc w g 0 l.toArray:=by
 intro j hj
 have hj':j<l.length:=by simpa using hj
 have h1:(cur.toList.take l.length)[j]?=(l.map enc)[j]?:=by rw[ht]
 rw[Qa0 hj',Qa2,Qa3 hj',Qa4]at h1;refine⟨?_,by simp[World.frozen?,hb]⟩;rw[Nat.zero_add,Aa0 hj'];exact(Aq hb j).trans h1
theorem Aim{w:World}{g n:Nat}{os:Array Obj}{cur:Array Value}{e:TypeId}{fr:Nat×Nat}(d:Array α)(hb:w.heap[g]?=some (.cells cur e fr)):(grow (putRow enc (Sort.ahead w n) g 0 d) os).heap[g]?=some (.cells (putCells enc 0 d cur) e fr):=by
 have hg:g<w.heap.size:=(Array.getElem?_eq_some_iff.1 hb).1;rw[heap_grow_old _ _ (by simpa using hg)];simp[putRow,mapBlock,Sort.ahead,Qa5,hb,onCells]
theorem Am5{w:World}{g n:Nat}{os:Array Obj}(d:Array α):w.grownBy (grow (putRow enc (Sort.ahead w n) g 0 d) os) (some g):=by
 refine⟨rfl,rfl,rfl,by simp,fun k hk hne=>?_⟩;rw[heap_grow_old _ _ (by simpa using hk)]
 have:g≠k:=fun e=>hne (by rw[e])
 simp[putRow,mapBlock,Sort.ahead,Qa5,this]
theorem Ajq(cur:Array Value)(d:List α){m:Nat}(hm:m≤d.length)(h:d.length≤cur.size):(putCells enc 0 d.toArray cur).toList.take m=(d.take m).map enc:=by
 apply List.ext_getElem?;intro j
 by_cases hj:j<m
 ·rw[Qa0 hj,Qa4,Qa2,Qa0 hj,Qa3 (by omega)];have hg:=Aa0 (l:=d) (j:=j) (by omega);simp[putCells,show j<cur.size by omega,show j<d.length by omega]
 ·rw[Qa1 (by omega),Qa2,Qa1 (by omega)];rfl
theorem Ans{w:World}{base g cap n:Nat}{e:TypeId}{os:Array Obj}{cur:Array Value}{d:List α}{m:Nat}(hm:m≤d.length)(hbase:base≤g)(hb:w.heap[g]?=some (.cells cur e (0,0)))(h1:d.length≤cap)(h2:cap≤maxLen)(h3:cur.size=cap*1):
  (grow (putRow enc (Sort.ahead w n) g 0 d.toArray) os).ownsRow base e 1 (.slice (some ⟨g,0,none⟩) m cap) m ((d.take m).map enc):=
 ⟨by rw[List.length_map,List.length_take];omega,.inr ⟨g,cap,_,rfl,hbase,Aim _ hb,by omega,h2,by simp[putCells,h3],by
  rw[Nat.mul_one];exact Ajq cur d hm (by omega)⟩⟩
end
end Go.VS
namespace Go.Proofs.Tryz
open Go.Shelf Go.RowKit Go.VS Go Go.Sort
def Lg(w:World)(B:Nat)(v:Value)(l:List Int):Prop:=w.ownsRow B 3 1 v l.length (l.map (Value.int .i64))
theorem Am8{w:World}{B B':Nat}{v:Value}{l:List Int}(h:Lg w B v l)(hb:B'≤B):Lg w B' v l:=by
 refine⟨h.1,?_⟩
 rcases h.2 with h|⟨g,cap,cur,h1,h2,h3,h4⟩
 ·exact .inl h
 ·exact .inr ⟨g,cap,cur,h1,Nat.le_trans hb h2,h3,h4⟩
theorem Amn{w:World}{B:Nat}{v:Value}{l:List Int}(h:Lg w B v l)(o:Obj):Lg (w.alloc o) B v l:=World.ownsRow.alloc h o
theorem AdQ{w w':World}{B:Nat}{v:Value}{l:List Int}(h:Lg w B v l)(hb:Below w.heap.size w w'):Lg w' B v l:=by
 refine⟨h.1,?_⟩
 rcases h.2 with h|⟨g,cap,cur,h1,h2,h3,h4⟩
 ·exact .inl h
 ·have hlt:g<w.heap.size:=(Array.getElem?_eq_some_iff.1 h3).1;exact .inr ⟨g,cap,cur,h1,h2,(hb.block g hlt).trans h3,h4⟩
theorem AiE(w:World)(B:Nat):Lg w B (.slice none 0 0) []:=World.ownsRow_nil _ _ _ _
theorem below_grow{B:Nat}{w0 w w':World}{row:Option Nat}(hB:Below B w0 w)(hg:w.grownBy w' row)(hr:∀i,row=some i→B≤i)(hs:B≤w0.heap.size):Below B w0 w':=
 ⟨hg.os.trans hB.os,hg.tape.trans hB.tape,hg.output.trans hB.output,Nat.le_trans hB.size hg.size,fun i hi=>by
  have hs:=hB.size
  exact(hg.block i (by omega) (fun e1=>by have:=hr i e1.symm;omega)).trans (hB.block i hi)⟩
theorem Anr{w:World}{B:Nat}{v:Value}{l:List Int}(h:Lg w B v l):∀i,v.ownBlock=some i→B≤i:=fun i hi=>(World.ownsRow.lt h i hi).1
theorem ahead_zero(w:World)(n:Nat)(g:Nat)(d:Array Int):putRow (Value.int .i64) (Sort.ahead w n) g 0 d=grow (putRow (Value.int .i64) (Sort.ahead w n) g 0 d) #[]:=(grow_empty _).symm
structure MS(w:World)(a:Option Addr)(l:List Int):Prop where
 at_:∀(k:Nat) (x:Int),l[k]?=some x→∃b off,a=some ⟨b,off,none⟩∧b<w.heap.size∧w.cell? ⟨b,off+k,none⟩=some (.int .i64 x)
theorem MS.below{w w':World}{a:Option Addr}{l:List Int}(h:MS w a l)(hb:Below w.heap.size w w'):MS w' a l:=
 ⟨fun k x hk=>by
  obtain⟨b,off,h1,h2,h3⟩:=h.at_ k x hk
  exact⟨b,off,h1,Nat.lt_of_lt_of_le h2 hb.size,(hb.cell (p:=⟨b,off+k,none⟩) h2).trans h3⟩⟩
theorem Ait{C:Ctx}{w:World}{l:List Int}{v:Value}{f:List Nat}(h:RV C w (.sl .brw 1 (l.map ((BT.int .i64).enc .leaf))) v f):∃a c,v=.slice a l.length c∧MS w a l:=by
 obtain⟨a,c,hv,hat⟩:=SK (t:=.int .i64) rfl h;refine⟨a,c,hv,⟨fun k x hx=>?_⟩⟩;obtain⟨b,off,h1,h2,h3⟩:=hat k x hx;exact⟨b,off,h1,h2,by have:=h3 0 (.int .i64 x) rfl;rw[show k*(BT.int IntKind.i64).size+0=k by show k*1+0=k;omega]at this;exact this⟩
end Go.Proofs.Tryz
