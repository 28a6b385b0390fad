/- Rules for lifted functions; numbers; lists. -/
import Derived.Test.YtopngokkgogolaaFwD
import Derived.IntWalk
set_option linter.unusedVariables false
set_option linter.unusedSimpArgs false
namespace Go.VS
theorem Ak.of{D:Type}{body:(D→Prop)→Prop}{rest:D→Prop}(h:body rest):Ak body rest:=⟨rest,h,fun _ h=>h⟩
theorem Ak.mid{D:Type}{body:(D→Prop)→Prop}{rest:D→Prop}(J:D→Prop)(h:body J)(h2:∀d,J d→rest d):Ak body rest:=⟨J,h,h2⟩
theorem Bf.of{D:Type}{x:D}{body:D→(D→Prop)→Prop}(I:D→Prop)(m:D→Nat)(h0:I x)(hs:∀d,I d→body d fun d'=>I d'∧m d'<m d):Bf x body:=by
 refine⟨fun n d=>I d∧m d=n,⟨_,h0,rfl⟩,?_⟩
 rintro n d ⟨hI,rfl⟩
 have:(fun d'=>∃k,k<m d∧I d'∧m d'=k)=fun d'=>I d'∧m d'<m d:=by
  funext d'
  exact propext ⟨fun⟨k,h1,h2,h3⟩=>⟨h2,by omega⟩,fun⟨h1,h2⟩=>⟨_,h2,h1,rfl⟩⟩
 rw[this]
 exact hs d hI
theorem Fn.to{P:Pg}{nm:String}{S:Sig}{x:DP S.ps}{K K':DP S.rs→DP (ptrs S.ps)→Prop}(h:Fn P nm S x K)(hk:∀d e,K d e→K' d e):Fn P nm S x K':=h.mono hk
theorem w64{n:Int}(h1:-9223372036854775808≤n)(h2:n≤9223372036854775807):IntKind.i64.wrap n=n:=by rw[IntKind.wrap_i64];omega
theorem Zw{n:Int}(h1:0≤n)(h2:n≤18446744073709551615):IntKind.u64.wrap n=n:=by rw[IntKind.wrap_u64];omega
theorem wu8{n:Int}(h1:0≤n)(h2:n≤255):IntKind.u8.wrap n=n:=by rw[IntKind.wrap_u8];omega
theorem getD_eq{α:Type}{l:List α}{i:Nat}{d:α}(h:i<l.length):l.getD i d=l[i]:=by simp[List.getD_eq_getElem?_getD,List.getElem?_eq_getElem h]
theorem Hp{α:Type}{l:List α}{i:Nat}{d:α}(h:i<l.length):l.getD i d∈l:=by rw[getD_eq h];exact List.getElem_mem h
theorem BK{α:Type}{l:List α}{i j:Nat}{x d:α}(h:i<l.length):(l.set i x).getD j d=if i=j then x else l.getD j d:=by
 simp only[List.getD_eq_getElem?_getD,List.getElem?_set]
 split
 ·rename_i e;subst e;simp[h]
 ·rfl
theorem Bx{α:Type}{l m:List α}{i:Nat}{d:α}(h:i<l.length):(l++m).getD i d=l.getD i d:=by
 simp[List.getD_eq_getElem?_getD,List.getElem?_append_left h]
theorem DK{α:Type}{l:List α}{x d:α}:(l++[x]).getD l.length d=x:=by
 simp[List.getD_eq_getElem?_getD]
theorem QY{α:Type}(d:α){l m:List α}(h:l.length=m.length)(hi:∀i,i<l.length→l.getD i d=m.getD i d):l=m:=by
 refine List.ext_getElem h fun i h1 h2=>?_
 have:=hi i h1
 rwa [getD_eq h1,getD_eq h2]at this
theorem toNat_lt{i:Int}{n:Nat}(h0:0≤i)(h:i<(n:Int)):i.toNat<n:=by omega
end Go.VS
