/- Closures: that they are idempotent, contain what they began with, grow, and ascend. -/
import Derived.Test.YtopngokkgogolaaKSpCloA
set_option linter.unusedVariables false
set_option linter.unusedSimpArgs false
namespace Go.VS
variable{P:Pg}
theorem VP{A:List State}{st en:Bool}{i j:Nat}(h:Fw A st en i j):Fw A true true i j:=by
 unfold Fw at h⊢
 rcases h with h|⟨h1,_,h3⟩|⟨h1,_,h3⟩
 ·exact .inl h
 ·exact .inr (.inl ⟨h1,rfl,h3⟩)
 ·exact .inr (.inr ⟨h1,rfl,h3⟩)
theorem MY{a:Auto}{fr:List Int}{st en:Bool}{l:List Int}(h:Dt a fr st en l)(q:Int):q∈l↔∃i:Nat,i<a.1.length∧q=i∧∃p:Nat,(p:Int)∈fr∧Jm a.1 st en p i:=by
 obtain⟨out,h1,h2,rfl⟩:=h
 rw[NQ]
 constructor
 ·rintro⟨i,hi,ho,rfl⟩;exact⟨i,hi,rfl,(h2 i hi).1 ho⟩
 ·rintro⟨i,hi,rfl,hp⟩;exact⟨i,hi,(h2 i hi).2 hp,rfl⟩
theorem Vq(out:List Bool)(k:Nat):(Jn out k).Pairwise fun x y=>x<y:=by
 unfold Jn
 rw[List.pairwise_map]
 refine(List.Pairwise.filter _ List.pairwise_lt_range).imp ?_
 intro x y h
 omega
theorem Xo{a:Auto}{fr:List Int}{st en:Bool}{l:List Int}(h:Dt a fr st en l):l.Pairwise fun x y=>x<y:=by
 obtain⟨out,_,_,rfl⟩:=h
 exact Vq _ _
theorem VI{a:Auto}{fr:List Int}{st en:Bool}{x y:List Int}(h:Dt a fr st en x)(k:Dt a x st en y):y=x:=by
 refine k.uniq ?_
 obtain⟨out,h1,h2,hx⟩:=h
 refine⟨out,h1,fun q hq=>?_,hx⟩
 rw[h2 q hq]
 constructor
 ·intro hp
  exact⟨q,by rw[hx];exact NQ.2 ⟨q,hq,(h2 q hq).2 hp,rfl⟩,.refl q⟩
 ·rintro⟨p,hp,hr⟩
  rw[hx]at hp
  obtain⟨i,hi,ho,e⟩:=NQ.1 hp
  have e:p=i:=by omega
  subst e
  obtain⟨p0,h0,r0⟩:=(h2 p hi).1 ho
  exact⟨p0,h0,r0.trans hr⟩
theorem VK{a:Auto}{fr:List Int}{st en:Bool}{x:List Int}(h:Dt a fr st en x){k:Int}(hk:k∈fr)(h0:0≤k)(h1:k<a.1.length):k∈x:=by
 rw[MY h]
 exact⟨k.toNat,by omega,by omega,k.toNat,by rw[show((k.toNat:Nat):Int)=k by omega];exact hk,.refl _⟩
theorem VJ{a:Auto}{fr fs:List Int}{st en:Bool}{x z:List Int}(h:Dt a fr st en x)(k:Dt a fs true true z)(hf:∀p∈fr,p∈fs){q:Int}(hq:q∈x):q∈z:=by
 rw[MY h]at hq
 rw[MY k]
 obtain⟨i,h1,h2,p,hp,hr⟩:=hq
 refine⟨i,h1,h2,p,hf _ hp,?_⟩
 clear h1 h2 hp
 induction hr with
 |refl=>exact .refl _
 |tail _ e ih=>exact ih.tail (VP e)
end Go.VS
