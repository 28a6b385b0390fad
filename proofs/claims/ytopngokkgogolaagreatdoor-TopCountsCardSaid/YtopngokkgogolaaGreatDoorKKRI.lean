/- Rows of one cell an element: sorted, compacted, cut down by the library; as lists. -/
import Derived.Test.YtopngokkgogolaaGreatDoorKKY
import Derived.Test.YtopngokkgogolaaGreatDoorKKShelf
import Derived.Test.YtopngokkgogolaaGreatDoorKS0
import Derived.Sort.OwnSorted
import Derived.Lib.SlicesCompact
import Derived.WalkSmall
import Derived.Deep.QuietTactic
import Derived.BigQuiet
set_option linter.unusedVariables false
set_option linter.unusedSimpArgs false
set_option linter.unusedSectionVars false
open List renaming getElem?_eq_getElem → Qa0, getElem?_take_of_lt → Qa1, getElem?_take_eq_none → Qa2, getElem?_map → Qa3
open Array renaming getElem?_toList → Qa4, getElem?_modify → Qa5
namespace Go.VS
open Go.RowKit Go Go.Sort Go.Proofs Go.Shelf
section
variable{α:Type}[Inhabited α]{enc:α→Value}
theorem Aa6{l:List α}{j:Nat}(h:j<l.length):l.toArray[j]! =l[j]:=by
 rw[getElem!_pos _ j (by simpa using h)];simp
theorem Ana{w:World}{g:Nat}{cur:Array Value}{e:TypeId}{l:List α}(hb:w.heap[g]?=some (.cells cur e (0,0)))(ht:cur.toList.take l.length=l.map enc):Holds enc w g 0 l.toArray:=by
 intro j hj
 have hj':j<l.length:=by simpa using hj
 have h1:(cur.toList.take l.length)[j]?=(l.map enc)[j]?:=by rw[ht]
 rw[Qa1 hj',Qa3,Qa0 hj',Qa4]at h1;refine⟨?_,by simp[World.frozen?,hb]⟩;rw[Nat.zero_add,Aa6 hj'];exact(Am hb j).trans h1
theorem Aig{w:World}{g n:Nat}{os:Array Obj}{cur:Array Value}{e:TypeId}{fr:Nat×Nat}(d:Array α)(hb:w.heap[g]?=some (.cells cur e fr)):(grow (putRow enc (Sort.ahead w n) g 0 d) os).heap[g]?=some (.cells (putCells enc 0 d cur) e fr):=by
 have hg:g<w.heap.size:=(Array.getElem?_eq_some_iff.1 hb).1;rw[heap_grow_old _ _ (by simpa using hg)];simp[putRow,mapBlock,Sort.ahead,Qa5,hb,onCells]
theorem Am9{w:World}{g n:Nat}{os:Array Obj}(d:Array α):w.grownBy (grow (putRow enc (Sort.ahead w n) g 0 d) os) (some g):=by
 refine⟨rfl,rfl,rfl,by simp,fun k hk hne=>?_⟩;rw[heap_grow_old _ _ (by simpa using hk)]
 have:g≠k:=fun e=>hne (by rw[e])
 simp[putRow,mapBlock,Sort.ahead,Qa5,this]
theorem Ajc(cur:Array Value)(d:List α){m:Nat}(hm:m≤d.length)(h:d.length≤cur.size):(putCells enc 0 d.toArray cur).toList.take m=(d.take m).map enc:=by
 apply List.ext_getElem?;intro j
 by_cases hj:j<m
 ·rw[Qa1 hj,Qa4,Qa3,Qa1 hj,Qa0 (by omega)];have hg:=Aa6 (l:=d) (j:=j) (by omega);simp[putCells,show j<cur.size by omega,show j<d.length by omega]
 ·rw[Qa2 (by omega),Qa3,Qa2 (by omega)];rfl
theorem AnA{w:World}{base g cap n:Nat}{e:TypeId}{os:Array Obj}{cur:Array Value}{d:List α}{m:Nat}(hm:m≤d.length)(hbase:base≤g)(hb:w.heap[g]?=some (.cells cur e (0,0)))(h1:d.length≤cap)(h2:cap≤maxLen)(h3:cur.size=cap*1):
  (grow (putRow enc (Sort.ahead w n) g 0 d.toArray) os).ownsRow base e 1 (.slice (some ⟨g,0,none⟩) m cap) m ((d.take m).map enc):=
 ⟨by rw[List.length_map,List.length_take];omega,.inr ⟨g,cap,_,rfl,hbase,Aig _ hb,by omega,h2,by simp[putCells,h3],by
  rw[Nat.mul_one];exact Ajc cur d hm (by omega)⟩⟩
end
end Go.VS
namespace Go.Proofs.Tryz
open Go.Shelf Go.RowKit Go.VS Go Go.Sort
def Ew(w:World)(B:Nat)(v:Value)(l:List Int):Prop:=w.ownsRow B 3 1 v l.length (l.map (Value.int .i64))
theorem Agw{w:World}{B B':Nat}{v:Value}{l:List Int}(h:Ew w B v l)(hb:B'≤B):Ew w B' v l:=by
 refine⟨h.1,?_⟩
 rcases h.2 with h|⟨g,cap,cur,h1,h2,h3,h4⟩
 ·exact .inl h
 ·exact .inr ⟨g,cap,cur,h1,Nat.le_trans hb h2,h3,h4⟩
theorem AdS{w:World}{B:Nat}{v:Value}{l:List Int}(h:Ew w B v l)(o:Obj):Ew (w.alloc o) B v l:=World.ownsRow.alloc h o
theorem AdT{w w':World}{B:Nat}{v:Value}{l:List Int}(h:Ew w B v l)(hb:Below w.heap.size w w'):Ew w' B v l:=by
 refine⟨h.1,?_⟩
 rcases h.2 with h|⟨g,cap,cur,h1,h2,h3,h4⟩
 ·exact .inl h
 ·have hlt:g<w.heap.size:=(Array.getElem?_eq_some_iff.1 h3).1;exact .inr ⟨g,cap,cur,h1,h2,(hb.block g hlt).trans h3,h4⟩
theorem Sa(w:World)(B:Nat):Ew w B (.slice none 0 0) []:=World.ownsRow_nil _ _ _ _
theorem below_grow{B:Nat}{w0 w w':World}{row:Option Nat}(hB:Below B w0 w)(hg:w.grownBy w' row)(hr:∀i,row=some i→B≤i)(hs:B≤w0.heap.size):Below B w0 w':=
 ⟨hg.os.trans hB.os,hg.tape.trans hB.tape,hg.output.trans hB.output,Nat.le_trans hB.size hg.size,fun i hi=>by
  have hs:=hB.size
  exact(hg.block i (by omega) (fun e1=>by have:=hr i e1.symm;omega)).trans (hB.block i hi)⟩
theorem Anz{w:World}{B:Nat}{v:Value}{l:List Int}(h:Ew w B v l):∀i,v.ownBlock=some i→B≤i:=fun i hi=>(World.ownsRow.lt h i hi).1
theorem ahead_zero(w:World)(n:Nat)(g:Nat)(d:Array Int):putRow (Value.int .i64) (Sort.ahead w n) g 0 d=grow (putRow (Value.int .i64) (Sort.ahead w n) g 0 d) #[]:=(grow_empty _).symm
structure Mj(w:World)(a:Option Addr)(l:List Int):Prop where
 at_:∀(k:Nat) (x:Int),l[k]?=some x→∃b off,a=some ⟨b,off,none⟩∧b<w.heap.size∧w.cell? ⟨b,off+k,none⟩=some (.int .i64 x)
theorem Mj.below{w w':World}{a:Option Addr}{l:List Int}(h:Mj w a l)(hb:Below w.heap.size w w'):Mj w' a l:=
 ⟨fun k x hk=>by
  obtain⟨b,off,h1,h2,h3⟩:=h.at_ k x hk
  exact⟨b,off,h1,Nat.lt_of_lt_of_le h2 hb.size,(hb.cell (p:=⟨b,off+k,none⟩) h2).trans h3⟩⟩
theorem Wo{C:Ctx}{w:World}{l:List Int}{v:Value}{f:List Nat}(h:RV C w (.sl .brw 1 (l.map ((BT.int .i64).enc .leaf))) v f):∃a c,v=.slice a l.length c∧Mj w a l:=by
 obtain⟨a,c,hv,hat⟩:=Un (t:=.int .i64) rfl h;refine⟨a,c,hv,⟨fun k x hx=>?_⟩⟩;obtain⟨b,off,h1,h2,h3⟩:=hat k x hx;exact⟨b,off,h1,h2,by have:=h3 0 (.int .i64 x) rfl;rw[show k*(BT.int IntKind.i64).size+0=k by show k*1+0=k;omega]at this;exact this⟩
theorem Aj0(l:List Int)(a:Option Addr)(c:Nat)(W:World)(hv:Mj W a l)(hl:l.length≤4000000):Calls prog 103 #[.slice a l.length c] W fun e w'=>∃v',e=.returned v'∧Ew w' W.heap.size v' l∧Below W.heap.size W w':=by
 cases a with
 |none=>
  have hn:l=[]:=by
   cases l with
   |nil=>rfl
   |cons x r=>obtain⟨b,off,h,_⟩:=hv.at_ 0 x rfl;cases h
  subst hn;refine(AnyG.slices_Clone_int_nil Tryz.Adk 0 c W).mono ?_;rintro e w' ⟨rfl,rfl⟩;exact⟨_,rfl,Sa _ _,Below.refl _ _⟩
 |some a=>
  by_cases hn:l=[]
  ·subst hn;refine(AnyG.slices_Clone_int_zero Tryz.Adk a c W).mono ?_;rintro e w' ⟨v',rfl,h1,_,h2⟩;exact⟨_,rfl,h1,h2⟩
  ·obtain⟨x,hx⟩:∃x,l[0]?=some x:=⟨_,Qa0 (List.length_pos_iff.2 hn)⟩
   obtain⟨b,off,ha,_,_⟩:=hv.at_ 0 x hx;cases ha;refine(AnyG.slices_Clone_int Tryz.Adk b off l.length c l W (Nat.le_refl _) (by omega) fun j hj=>?_).mono ?_
   ·obtain⟨b',off',h1,_,h2⟩:=hv.at_ j l[j] (Qa0 hj);cases h1;rw[getD_eq hj];exact h2
   ·rintro e w' ⟨v',rfl,h1,_,h2⟩;rw[List.take_length]at h1;exact⟨_,rfl,h1,h2⟩
end Go.Proofs.Tryz
