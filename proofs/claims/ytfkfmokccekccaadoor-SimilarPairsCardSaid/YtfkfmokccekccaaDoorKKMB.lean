/- Maps from strings to bools, as sets. -/
import Derived.Test.YtfkfmokccekccaaDoorKKN
import Derived.Test.YtfkfmokccekccaaDoorKSm0
set_option linter.unusedVariables false
set_option linter.unusedSimpArgs false
namespace Go.Proofs.Tryd
open Go.Shelf Go.RowKit Go.VS Go Go.Maps
def MB(w:World)(b n:Nat)(g:Bs→Option Bool):Prop:=Cb prog 9 (Elt.bool underlying4) w b n g
theorem Ag3(w:World):(zeroValue 4).run prog w=.ok ((Elt.bool (P:=prog) underlying4).val false) w:=Tryd.zeroValue4 w
def AbP(s:List Bs):Bs→Option Bool:=fun p=>if p∈s then some true else none
theorem Ahl(s:List Bs)(p:Bs):∀x,AbP (p::s) x=gput (AbP s) p true x:=fun x=>by
 unfold AbP gput
 dsimp only
 by_cases h:x=p
 ·rw[if_pos h,if_pos (by rw[h];exact List.mem_cons_self ..)]
 ·rw[if_neg h]
  by_cases h2:x∈s
  ·rw[if_pos h2,if_pos (List.mem_cons_of_mem _ h2)]
  ·rw[if_neg h2,if_neg (fun h3=>(List.mem_cons.1 h3).elim h h2)]
theorem Agn(s:List Bs)(p:Bs):(AbP s p).getD false=decide (p∈s):=by
 unfold AbP
 by_cases h:p∈s
 ·rw[if_pos h,decide_eq_true h];rfl
 ·rw[if_neg h,decide_eq_false h];rfl
end Go.Proofs.Tryd
