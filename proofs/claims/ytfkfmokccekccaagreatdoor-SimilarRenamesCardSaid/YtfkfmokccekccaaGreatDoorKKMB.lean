/- Maps from strings to bools, as sets. -/
import Derived.Test.YtfkfmokccekccaaGreatDoorKKN
import Derived.Test.YtfkfmokccekccaaGreatDoorKSm1
set_option linter.unusedVariables false
set_option linter.unusedSimpArgs false
namespace Go.Proofs.Tryz
open Go.Shelf Go.RowKit Go.VS Go Go.Maps
def MB(w:World)(b n:Nat)(g:Bs→Option Bool):Prop:=Cs prog 9 (Elt.bool underlying4) w b n g
theorem Asx(w:World):(zeroValue 4).run prog w=.ok ((Elt.bool (P:=prog) underlying4).val false) w:=Tryz.zeroValue4 w
def Aow(s:List Bs):Bs→Option Bool:=fun p=>if p∈s then some true else none
theorem AsI(s:List Bs)(p:Bs):∀x,Aow (p::s) x=gput (Aow s) p true x:=fun x=>by
 unfold Aow gput
 dsimp only
 by_cases h:x=p
 ·rw[if_pos h,if_pos (by rw[h];exact List.mem_cons_self ..)]
 ·rw[if_neg h]
  by_cases h2:x∈s
  ·rw[if_pos h2,if_pos (List.mem_cons_of_mem _ h2)]
  ·rw[if_neg h2,if_neg (fun h3=>(List.mem_cons.1 h3).elim h h2)]
theorem Ar8(s:List Bs)(p:Bs):(Aow s p).getD false=decide (p∈s):=by
 unfold Aow
 by_cases h:p∈s
 ·rw[if_pos h,decide_eq_true h];rfl
 ·rw[if_neg h,decide_eq_false h];rfl
end Go.Proofs.Tryz
