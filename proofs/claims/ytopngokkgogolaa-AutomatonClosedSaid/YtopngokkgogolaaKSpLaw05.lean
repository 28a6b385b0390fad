/- What the statements about layer 5 use. -/
import Derived.Test.YtopngokkgogolaaKSpMod
import Derived.Test.YtopngokkgogolaaKSpInts
import Derived.Test.YtopngokkgogolaaKSpNode
import Derived.Test.YtopngokkgogolaaKSpClo
set_option linter.unusedVariables false
set_option linter.unusedSimpArgs false
namespace Go.VS
variable{P:Pg}
def LM(P:Pg):Prop:=∀x:List Int×Int,Fn P YT FL x fun(d:Auto) _=>d=Ha x.1 x.2 7
theorem U5(h:Has P FI)(hA:QC P)(hM:JJ P)(hP:JK P):LM P:=by
 rintro⟨raw,n⟩
 refine OE h ?_
 unfold Ks
 dsimp only
 refine hM.at (by decide) (by decide) ?_
 have hr:=C8 (a:=n) (n:=7) (by decide) (by decide)
 rw[w64 (n:=1+CU n 7) (by omega) (by omega)]
 refine hA.at (by decide) (hM.at (by omega) (by omega) ?_)
 refine Ak.mid (fun d=>d=Ha raw n 7) ?_ fun d hd=>hd
 generalize hN:1+CU n 7=N at*
 refine Bf.of (fun d=>0≤d.1∧d.1≤N∧d.2=((List.range d.1.toNat).map (NM raw N),CU (atF raw 0) N)) (fun d=>(N -d.1).toNat) ⟨Int.le_refl _,by dsimp only;omega,rfl⟩ ?_
 rintro⟨i,l,st⟩ ⟨i0,i1,hl⟩
 dsimp only at i0 i1 hl⊢
 cases hl
 refine⟨fun hc=>Ak.of ?_,fun hc=>?_⟩
 ·have hc:=of_decide_eq_true hc
  have e4:IntKind.i64.wrap (4*i)=4*i:=w64 (by omega) (by omega)
  have e1:IntKind.i64.wrap (1+4*i)=1+4*i:=w64 (by omega) (by omega)
  have e2:IntKind.i64.wrap (2+4*i)=2+4*i:=w64 (by omega) (by omega)
  have e3:IntKind.i64.wrap (3+4*i)=3+4*i:=w64 (by omega) (by omega)
  have e5:IntKind.i64.wrap (4+4*i)=4+4*i:=w64 (by omega) (by omega)
  have e6:IntKind.i64.wrap (i+1)=i+1:=w64 (by omega) (by omega)
  simp only[e4,e1,e2,e3,e5,e6]
  refine hA.at (by omega) (hM.at (by decide) (by decide) (hA.at (by omega) (hM.at (by omega) (by omega) (hA.at (by omega) (hM.at (by omega) (by omega) ?_)))))
  have em:=Wa raw N i0
  refine Ak.mid (fun d=>d=NM raw N i.toNat) ?_ ?_
  ·rw[em]
   have tail:=Wb hM hP (a:=atF raw (4+4*i)) (k:=CU (atF raw (1+4*i)) 5) (x:=CU (atF raw (2+4*i)) N) (y:=CU (atF raw (3+4*i)) N)
   exact⟨⟨hA.at (by omega) ⟨tail,trivial⟩,trivial⟩,⟨hA.at (by omega) ⟨⟨tail,trivial⟩,⟨tail,trivial⟩⟩,trivial⟩⟩
  ·rintro x rfl
   refine⟨?_,⟨by omega,by omega,?_⟩,by omega⟩
   ·simp only[List.length_map,List.length_range,List.length_cons,List.length_nil];omega
   ·rw[show(i+1).toNat=i.toNat+1 by omega,List.range_succ,List.map_append]
    rfl
 ·have hc:=of_decide_eq_false hc
  have:i=N:=by omega
  subst this
  unfold Ha
  rw[hN]
end Go.VS
