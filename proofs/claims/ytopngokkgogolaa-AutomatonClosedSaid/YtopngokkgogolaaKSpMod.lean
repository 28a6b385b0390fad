/- A number brought into a range. -/
import Derived.Test.YtopngokkgogolaaKSpBase
import Derived.Test.YtopngokkgogolaaKGf0
import Derived.Test.YtopngokkgogolaaKGf1
set_option linter.unusedVariables false
set_option linter.unusedSimpArgs false
namespace Go.VS
variable{P:Pg}
@[irreducible] def CU(a n:Int):Int:=IntKind.i64.wrap (Int.tmod (IntKind.u64.wrap a) (IntKind.u64.wrap n))
theorem Vc(n:Int):0≤IntKind.u64.wrap n∧IntKind.u64.wrap n≤18446744073709551615:=by rw[IntKind.wrap_u64];omega
theorem C8{a n:Int}(h1:1≤n)(h2:n≤9223372036854775807):0≤CU a n∧CU a n<n:=by
 unfold CU
 rw[Zw (n:=n) (by omega) (by omega)]
 have h:=Vc a
 rw[Int.tmod_eq_emod_of_nonneg h.1]
 have e1:=Int.emod_nonneg (IntKind.u64.wrap a) (show n≠0 by omega)
 have e2:=Int.emod_lt_of_pos (IntKind.u64.wrap a) (show 0<n by omega)
 rw[w64 (by omega) (by omega)]
 exact⟨e1,e2⟩
def JJ(P:Pg):Prop:=∀x:Int×Int,1≤x.2→x.2≤9223372036854775807→Fn P zS1 A9 x fun d _=>d=CU x.1 x.2
theorem YL(h:Has P I1):JJ P:=by
 intro x h1 h2
 refine SB h ?_
 unfold OW
 exact⟨by rw[Zw (by omega) (by omega)];omega,by unfold CU;rfl⟩
theorem JJ.at(h:JJ P){a n:Int}(h1:1≤n)(h2:n≤9223372036854775807){K:Int→Unit→Prop}(hk:K (CU a n) ()):Fn P zS1 A9 (a,n) K:=(h (a,n) h1 h2).to fun(d:Int) e hd=>by
 have hd:d=CU a n:=hd
 subst hd;exact hk
end Go.VS
