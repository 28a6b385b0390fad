/- A machine's threads: one added with all that it becomes. -/
import Derived.Test.YtopngokkgogolaaKSpEnds
set_option linter.unusedVariables false
set_option linter.unusedSimpArgs false
namespace Go.VS
variable{P:Pg}
def IQ(x:State)(st en:Bool):List Int:=
 if x.1=1 then[x.2.2.1,x.2.2.2]else if x.1=2 then(if st then[x.2.2.1]else[])else if x.1=3 then(if en then[x.2.2.1]else[])else[]
theorem Tn(x:State)(st en:Bool):(IQ x st en).length≤2:=by
 unfold IQ
 split
 ·simp
 ·split
  ·split<;>simp
  ·split
   ·split<;>simp
   ·simp
theorem Tm{A:List State}(hA:OkL A){i:Nat}(hi:i<A.length)(st en:Bool):(∀q∈IQ (A.getD i Al) st en,0≤q∧q<A.length∧Fw A st en i q.toNat)∧∀j,Fw A st en i j→(j:Int)∈IQ (A.getD i Al) st en:=by
 obtain⟨h1,h2,h3,h4⟩:=hA i hi
 unfold IQ Fw
 generalize A.getD i Al=x at h1 h2 h3 h4⊢
 obtain⟨k,set,nx,ot⟩:=x
 dsimp only at h1 h2 h3 h4⊢
 constructor
 ·intro q hq
  split at hq
  ·rename_i hk
   simp at hq
   rcases hq with rfl|rfl
   ·have:=h3 (by omega);exact⟨this.1,this.2,.inl ⟨hk,.inl rfl⟩⟩
   ·have:=h4 hk;exact⟨this.1,this.2,.inl ⟨hk,.inr rfl⟩⟩
  ·split at hq
   ·rename_i hk
    split at hq
    ·rename_i hs;simp at hq;subst hq;have:=h3 (by omega);exact⟨this.1,this.2,.inr (.inl ⟨hk,hs,rfl⟩)⟩
    ·simp at hq
   ·split at hq
    ·rename_i hk
     split at hq
     ·rename_i hs;simp at hq;subst hq;have:=h3 (by omega);exact⟨this.1,this.2,.inr (.inr ⟨hk,hs,rfl⟩)⟩
     ·simp at hq
    ·simp at hq
 ·rintro j (⟨hk,rfl|rfl⟩|⟨hk,hs,rfl⟩|⟨hk,hs,rfl⟩)
  ·have:=h3 (by omega);simp[hk];omega
  ·have:=h4 hk;simp[hk];omega
  ·have:=h3 (by omega);simp[hk,hs];omega
  ·have:=h3 (by omega);simp[hk,hs];omega
def M9(P:Pg):Prop:=∀x:State×(Bool×Bool),Fn P W8 CE x fun(d:List Int) _=>d=IQ x.1 x.2.1 x.2.2
theorem WE(h:Has P Dw):M9 P:=by
 rintro⟨⟨k,set,nx,ot⟩,st,en⟩
 refine JW h ?_
 unfold GX IQ
 dsimp only
 refine Ak.of ⟨fun h1=>?_,fun h1=>Ak.of ⟨fun h2=>⟨fun h3=>?_,fun h3=>?_⟩,fun h2=>Ak.of ⟨fun h3=>⟨fun h4=>?_,fun h4=>?_⟩,fun h3=>?_⟩⟩⟩<;>simp_all
end Go.VS
