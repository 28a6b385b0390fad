/- Lists of numbers, compared. -/
import Derived.Test.YtopngokkgogolaaKSpMod
set_option linter.unusedVariables false
set_option linter.unusedSimpArgs false
namespace Go.VS
variable{P:Pg}
def PO(P:Pg):Prop:=∀x:List Int×List Int,x.1.length≤140737488351232→Fn P YV HD x fun(d:Bool) _=>d=true↔x.1=x.2
theorem XQ(h:Has P HC):PO P:=by
 rintro⟨l,m⟩ hl
 refine Q4 h ?_
 unfold Nb
 dsimp only at hl⊢
 refine⟨fun hc=>?_,fun hc=>?_⟩
 ·simp at hc
  exact⟨fun h=>(nomatch h),fun h=>by rw[h]at hc;exact(hc rfl).elim⟩
 simp at hc
 refine Ak.mid (fun _=>l=m) ?_ fun d hd=>⟨fun _=>hd,fun _=>rfl⟩
 refine Bf.of (fun d=>0≤d.2∧d.2≤l.length∧∀k:Nat,(k:Int)<d.2→l.getD k 0=m.getD k 0) (fun d=>(l.length -d.2).toNat) ⟨Int.le_refl _,by dsimp only;omega,fun k hk=>by dsimp only at hk;omega⟩ ?_
 rintro⟨u,k⟩ ⟨k0,k1,hk⟩
 dsimp only at k0 k1 hk⊢
 refine⟨fun hb=>Ak.of ?_,fun hb=>?_⟩
 ·have hb:=of_decide_eq_true hb
  rw[w64 (by omega) (by omega)]
  refine⟨⟨k0,hb⟩,by omega,⟨k0,by omega⟩,by omega,fun he=>?_,fun he=>?_⟩
  ·simp[-List.getD_eq_getElem?_getD]at he
   exact⟨fun h=>(nomatch h),fun h=>by subst h;simp at he⟩
  ·simp[-List.getD_eq_getElem?_getD]at he
   refine⟨⟨by omega,by omega,fun k' hk'=>?_⟩,by omega⟩
   by_cases e:k'=k.toNat
   ·subst e;exact he
   ·exact hk k' (by omega)
 ·have hb:=of_decide_eq_false hb
  exact QY 0 (by omega) fun i hi=>hk i (by omega)
end Go.VS
