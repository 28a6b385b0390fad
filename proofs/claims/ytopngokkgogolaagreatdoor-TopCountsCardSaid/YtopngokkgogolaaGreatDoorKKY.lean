/- Rows of structs that the library has sorted. -/
import Derived.Test.YtopngokkgogolaaGreatDoorFwD
import Derived.Shelf.SlSortCmp.WholeK
import Derived.Sort.OwnSorted
set_option linter.unusedVariables false
set_option linter.unusedSimpArgs false
set_option linter.unusedSectionVars false
open List renaming getElem?_eq_getElem → Qa0, flatten_cons → Qa1, getElem?_take_of_lt → Qa2, map_cons → Qa5
open Array renaming getElem?_toList → Qa3, getElem?_modify → Qa4
namespace Go.VS
open Go.RowKit Go Go.Sort Go.Proofs
theorem LF{α β:Type}{enc:α→List β}{k:Nat}(hk:∀x,(enc x).length=k):∀(ss:List α) {j:Nat} {x:α} {c:Nat},ss[j]?=some x→c<k→(ss.map enc).flatten[j*k+c]?=(enc x)[c]?
 |[],_,_,_,h,_=>nomatch h
 |y::ss,0,x,c,h,hc=>by
  obtain rfl:y=x:=by simpa using h
  rw[Qa5,Qa1,Nat.zero_mul,Nat.zero_add,List.getElem?_append_left (by rw[hk];exact hc)]
 |y::ss,j+1,x,c,h,hc=>by
  rw[Qa5,Qa1,List.getElem?_append_right (by rw[hk,Nat.add_mul];omega),hk]
  have:=LF hk ss (j:=j) (x:=x) (by simpa using h) hc;rw[←this]
  congr 1
  rw[Nat.add_mul];omega
section
variable{α:Type}[Inhabited α]{enc:α→List Value}{k:Nat}
theorem HE(hk:∀x,(enc x).length=k):∀ss:List α,(ss.map enc).flatten.length=ss.length*k
 |[]=>by simp
 |y::ss=>by
  rw[Qa5,Qa1,List.length_append,hk,HE hk ss,List.length_cons,Nat.add_mul];omega
theorem VT(hk:∀x,(enc x).length=k)(ss:List α):flatK enc k ss.toArray=(ss.map enc).flatten.toArray:=by
 refine Array.ext (by simp only[size_flatK,List.size_toArray,HE hk]) fun t h1 h2=>?_
 have ht:t<ss.length*k:=by simpa using h1
 have k0:0<k:=by
  rcases Nat.eq_zero_or_pos k with h|h
  ·subst h;simp at ht
  ·exact h
 have hq:t/k<ss.length:=Nat.div_lt_of_lt_mul (by rwa [Nat.mul_comm]at ht);have hr:t%k<k:=Nat.mod_lt _ k0;have e:=get_flatK enc k ss.toArray t (by simpa using ht);rw[getElem!_pos _ t h1]at e;rw[e];have f:=LF hk ss (j:=t/k) (x:=ss[t/k]) (c:=t%k) (Qa0 hq) hr
 rw[show t/k*k+t%k=t by rw[Nat.mul_comm];exact Nat.div_add_mod t k]at f
 have hl:t<(ss.map enc).flatten.length:=by rw[HE hk];exact ht
 rw[Qa0 hl,Qa0 (by rw[hk];exact hr)]at f
 have f:=Option.some.inj f
 have e2:ss.toArray[t/k]! =ss[t/k]:=by rw[getElem!_pos _ _ (by simpa using hq)];simp
 rw[e2,getElem!_pos _ _ (by rw[hk];exact hr),←f]
 simp
theorem UX(hk:∀x,(enc x).length=k){w:World}{g:Nat}{cur:Array Value}{e:TypeId}{ss:List α}(hb:w.heap[g]?=some (.cells cur e (0,0)))(ht:cur.toList.take (ss.length*k)=(ss.map enc).flatten):HoldsK enc k w g 0 ss.toArray:=by
 unfold HoldsK;rw[VT hk];intro j hj
 have hj':j<ss.length*k:=by rw[←HE hk ss];simpa using hj
 refine⟨?_,by simp[World.frozen?,hb]⟩
 have h1:(cur.toList.take (ss.length*k))[j]?=((ss.map enc).flatten)[j]?:=by rw[ht]
 rw[Qa2 hj']at h1;simp only[World.cell?,hb,Nat.zero_add];simp only[Option.isSome_none,Bool.false_eq_true,if_false]
 have hl:j<(ss.map enc).flatten.length:=by rw[HE hk];exact hj'
 rw[←Qa3,h1,Qa0 hl,getElem!_pos _ j hj];simp
theorem ZG{w:World}{g n:Nat}{os:Array Obj}{cur:Array Value}{e:TypeId}{fr:Nat×Nat}(d:Array α)(hb:w.heap[g]?=some (.cells cur e fr)):
  (sortWorldK enc k w g 0 n d os).heap[g]?=some (.cells (putCells id 0 (flatK enc k d) cur) e fr):=by
 have hg:g<w.heap.size:=(Array.getElem?_eq_some_iff.1 hb).1;unfold sortWorldK putRowK;rw[heap_grow_old _ _ (by simpa using hg)];simp[putRow,mapBlock,Sort.ahead,Qa4,hb,onCells]
theorem UN{w:World}{g n:Nat}{os:Array Obj}(d:Array α):w.grownBy (sortWorldK enc k w g 0 n d os) (some g):=by
 unfold sortWorldK putRowK;refine⟨rfl,rfl,rfl,by simp,fun k hk hne=>?_⟩;rw[heap_grow_old _ _ (by simpa using hk)]
 have:g≠k:=fun e=>hne (by rw[e])
 simp[putRow,mapBlock,Sort.ahead,Qa4,this]
theorem Xv(hk:∀x,(enc x).length=k)(cur:Array Value)(ts:List α)(h:ts.length*k≤cur.size):(putCells id 0 (flatK enc k ts.toArray) cur).toList.take (ts.length*k)=(ts.map enc).flatten:=by
 rw[VT hk];have hl:=HE hk ts;rw[←hl]at h⊢;generalize(ts.map enc).flatten=L at h;apply List.ext_getElem?;intro j
 by_cases hj:j<L.length
 ·rw[Qa2 hj,Qa3];simp[putCells,hj,show j<cur.size by omega]
 ·rw[List.getElem?_take_eq_none (by omega),List.getElem?_eq_none (by omega)]
theorem UZ(hk:∀x,(enc x).length=k){w:World}{base g cap n:Nat}{e:TypeId}{os:Array Obj}{cur:Array Value}{ss ts:List α}(hl:ts.length=ss.length)(hbase:base≤g)(hb:w.heap[g]?=some (.cells cur e (0,0)))
  (h1:ss.length≤cap) (h2:cap≤maxLen) (h3:cur.size=cap*k):
  (sortWorldK enc k w g 0 n ts.toArray os).ownsRow base e k (.slice (some ⟨g,0,none⟩) ss.length cap) ss.length (ts.map enc).flatten:=
 ⟨by rw[HE hk,hl],.inr ⟨g,cap,_,rfl,hbase,ZG _ hb,h1,h2,by simp[putCells,h3],by
  rw[←hl];exact Xv hk cur ts (by rw[h3,hl];exact Nat.mul_le_mul_right _ h1)⟩⟩
theorem toList_perm{d d':Array α}(h:PermIn 0 d.size d d'):d'.toList.Perm d.toList:=by
 obtain⟨h1,_,h3⟩:=h
 have e1:d.extract 0 d.size=d:=by simp
 have e2:d'.extract 0 d.size=d':=by rw[←h1];simp
 rw[e1,e2]at h3;exact h3
theorem Ya{lt:α→α→Bool}{d d':Array α}(hs:d'.size=d.size)(h:SortedIn lt 0 d.size d'):d'.toList.Pairwise fun x y=>lt y x=false:=by
 rw[List.pairwise_iff_getElem];intro i j hi hj hij
 have hi':i<d'.size:=by simpa using hi
 have hj':j<d'.size:=by simpa using hj
 have:=h i j (Nat.zero_le _) hij (by omega);rw[getElem!_pos d' j hj',getElem!_pos d' i hi']at this;simpa using this
end
def Anh(s:SV):Prop:=(∃u,s=.one (.lit u))∨∃k xs,s=.one (.sl .brw k xs)∧∀x∈xs,∀a∈x,∃u,a=AV.lit u
theorem AiO{P:Pg}{w w':World}{av:List SV}{vs:Array Value}(h:Lf P w av vs)(hl:∀s∈av,Anh s)(hw:∀b,b<w.heap.size→w'.heap[b]?=w.heap[b]?)(hsz:w.heap.size≤w'.heap.size):Reads P w' av vs:=by
 obtain⟨h1,h2⟩:=h;refine⟨h1,fun t s hs=>?_⟩;obtain⟨C,f,_,hr⟩:=h2 t s hs
 rcases hl s (List.mem_of_getElem? hs)with⟨u,rfl⟩|⟨k,xs,rfl,hx⟩
 ·refine⟨rfl,fun C' _ _=>?_⟩;have hr:RV C w (.lit u) (vs.getD t undef) f:=hr;have:=RV.Dj hr;show RV C' w' (.lit u) (vs.getD t undef) [];rw[this];refine .lit _ ?_;rw[←this];exact hr.HM
 ·refine⟨rfl,fun C' _ hC=>?_⟩
  exact(Z3 (show RV C w (.sl .brw k xs) (vs.getD t undef) f from hr) hx).2 hw fun b hb=>(hC b (Nat.lt_of_lt_of_le hb hsz)).1
theorem Aj4{t:BT}(x:t.D):(t.enc .leaf x).length=t.size:=D3 t _ x
theorem Un{t:BT}(ht:t.flat=true){C:Ctx}{w:World}{l:List t.D}{v:Value}{f:List Nat}(h:RV C w (.sl .brw t.size (l.map (t.enc .leaf))) v f):
  ∃a c,v=.slice a l.length c∧∀(k:Nat) (x:t.D),l[k]?=some x→∃b off,a=some ⟨b,off,none⟩∧b<w.heap.size∧∀(j:Nat) (u:Value),(t.fl x)[j]?=some u→w.cell? ⟨b,off+(k*t.size+j),none⟩=some u:=by
 have hlit:∀x∈l.map (t.enc .leaf),∀a∈x,∃u,a=AV.lit u:=fun x hx a ha=>by
  obtain⟨y,_,rfl⟩:=List.mem_map.1 hx;rw[Tk t ht]at ha;obtain⟨u,_,rfl⟩:=List.mem_map.1 ha;exact⟨u,rfl⟩
 obtain⟨hrd,_⟩:=Z3 h hlit
 rcases hrd with⟨hnil,a,c,hv⟩|⟨b,off,c,hv,hb,hc⟩
 ·have hnil:l=[]:=by simpa using hnil
  subst hnil;exact⟨a,c,hv,fun k x hx=>nomatch hx⟩
 ·refine⟨some ⟨b,off,none⟩,c,by simpa using hv,fun k x hx=>⟨b,off,rfl,hb,fun j u hu=>hc (k*t.size+j) u ?_⟩⟩
  have hj:j<t.size:=by
   have:=(List.getElem?_eq_some_iff.1 hu).1
   rwa [Vf t ht]at this
  rw[LF (enc:=t.enc .leaf) (k:=t.size) (fun x=>Aj4 x) l hx hj,Tk t ht,List.getElem?_map,hu];rfl
theorem Anc{t:BT}(ht:t.flat=true)(l:List t.D):∀x∈l.map (t.enc .leaf),∀a∈x,∃u,a=AV.lit u:=fun x hx a ha=>by
 obtain⟨y,_,rfl⟩:=List.mem_map.1 hx;rw[Tk t ht]at ha;obtain⟨u,_,rfl⟩:=List.mem_map.1 ha;exact⟨u,rfl⟩
end Go.VS
