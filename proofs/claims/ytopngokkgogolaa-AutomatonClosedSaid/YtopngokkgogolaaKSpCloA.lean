/- Closures: what they are. -/
import Derived.Test.YtopngokkgogolaaKSpClose
set_option linter.unusedVariables false
set_option linter.unusedSimpArgs false
namespace Go.VS
variable{P:Pg}
def Jn(out:List Bool)(k:Nat):List Int:=((List.range k).filter fun i=>out.getD i false).map fun(i:Nat)=>(i:Int)
theorem OY(out:List Bool)(k:Nat):Jn out (k+1)=if out.getD k false=true then Jn out k++[(k:Int)]else Jn out k:=by
 unfold Jn
 rw[List.range_succ,List.filter_append,List.map_append]
 split
 ·rename_i h;rw[show(List.filter (fun i=>out.getD i false) [k])=[k]by simp[List.filter,h,-List.getD_eq_getElem?_getD]];rfl
 ·rename_i h;rw[show(List.filter (fun i=>out.getD i false) [k])=[]by simp[List.filter,h,-List.getD_eq_getElem?_getD]];simp
theorem QL(out:List Bool)(k:Nat):(Jn out k).length≤k:=by
 unfold Jn
 rw[List.length_map]
 exact Nat.le_trans (List.length_filter_le _ _) (by simp)
theorem NQ{out:List Bool}{k:Nat}{x:Int}:x∈Jn out k↔∃i:Nat,i<k∧out.getD i false=true∧x=i:=by
 unfold Jn
 simp only[List.mem_map,List.mem_filter,List.mem_range]
 constructor
 ·rintro⟨i,⟨h1,h2⟩,rfl⟩;exact⟨i,h1,h2,rfl⟩
 ·rintro⟨i,h1,h2,rfl⟩;exact⟨i,⟨h1,h2⟩,rfl⟩
def Dt(a:Auto)(fr:List Int)(st en:Bool)(l:List Int):Prop:=∃out:List Bool,out.length=a.1.length∧(∀q,q<a.1.length→(out.getD q false=true↔∃p:Nat,(p:Int)∈fr∧Jm a.1 st en p q))∧l=Jn out a.1.length
theorem Dt.uniq{a:Auto}{fr:List Int}{st en:Bool}{l m:List Int}(h1:Dt a fr st en l)(h2:Dt a fr st en m):l=m:=by
 obtain⟨o1,l1,a1,rfl⟩:=h1
 obtain⟨o2,l2,a2,rfl⟩:=h2
 have:o1=o2:=QY false (by omega) fun i hi=>by
  have:=(a1 i (by omega)).trans (a2 i (by omega)).symm
  cases h:o2.getD i false
  ·rw[h]at this;cases h':o1.getD i false
   ·rfl
   ·exact absurd (this.1 h') (by simp)
  ·exact this.2 h
 rw[this]
def Kp(a:Auto)(fr:List Int)(st en:Bool)(d:List Int×Int):Prop:=(¬Valid a→d=([],2))∧(Valid a→((∃k∈fr,k<0∨(a.1.length:Int)≤k)→d=([],3))∧((∀k∈fr,0≤k∧k<(a.1.length:Int))→d.2=0∧Dt a fr st en d.1))
theorem Kp.uniq{a:Auto}{fr:List Int}{st en:Bool}{d e:List Int×Int}(h1:Kp a fr st en d)(h2:Kp a fr st en e):d=e:=by
 by_cases v:Valid a
 ·obtain⟨a1,a2⟩:=h1.2 v
  obtain⟨b1,b2⟩:=h2.2 v
  by_cases hx:∃k∈fr,k<0∨(a.1.length:Int)≤k
  ·rw[a1 hx,b1 hx]
  ·have hx:∀k∈fr,0≤k∧k<(a.1.length:Int):=fun k hk=>by
    refine⟨?_,?_⟩
    ·rcases Int.lt_or_le k 0 with h|h
     ·exact absurd ⟨k,hk,.inl h⟩ hx
     ·exact h
    ·rcases Int.lt_or_le k a.1.length with h|h
     ·exact h
     ·exact absurd ⟨k,hk,.inr h⟩ hx
   obtain⟨a3,a4⟩:=a2 hx
   obtain⟨b3,b4⟩:=b2 hx
   exact Prod.ext (a4.uniq b4) (a3.trans b3.symm)
 ·rw[h1.1 v,h2.1 v]
end Go.VS
