/-
 TopStats: for every input the law answers true, and leaves its arguments as they are. No condition but the tied tables.
 The functions that it reaches are read as typed code; each has a contract, shown once; the law follows from the contracts.
-/
import Derived.Test.YtopngokkgogolaaGreatDoorKZ2
import Derived.Test.YtopngokkgogolaaGreatDoorKZ0
import Derived.Test.YtopngokkgogolaaGreatDoorKZ1
import Derived.Test.YtopngokkgogolaaGreatDoorRows
import Derived.Test.YtopngokkgogolaaGreatDoorCards
import Derived.Test.YtopngokkgogolaaGreatDoorTie
import Derived.WalkKit
import Derived.ProofKit
import Derived.JoinedOf
import Derived.LaidMore
import Derived.Lay
import Derived.SevenTiedAt
import Derived.Stop.Joined
import Derived.Lib.LaidTab
set_option linter.unusedVariables false
set_option linter.unusedSimpArgs false
namespace Go.Proofs.YtopngokkgogolaaGreatDoor.topStats
open Go.VS Go.Proofs.YtopngokkgogolaaGreatDoor
theorem pA:Tryz.checked.prog.mainIs=some (true,("7f79b5850d4d1d49fcab43ba146ab5f98c5188ad4dc94c78b0fe1219c75687ac":String).toList):=by kernel_rfl
theorem pB:Rows.topStatsRow.wfByText (OpenSpec.ofChange Rows.topStatsSpec)=true:=by kernel_rfl
theorem pC:false=Rows.topStatsRow.goesBy Tryz.checked.prog:=by kernel_rfl
theorem pD:Tryz.prog.funcNamed "mergelens/mergelenstop.TopStats" =some 6:=by kernel_rfl
theorem pE:true=Tryz.checked.prog.looks []:=by kernel_rfl
theorem pF:([22,3,3,4].all fun u=>!Tryz.prog.wantsStandIn u)=true:=by kernel_rfl
theorem proved:Rows.TopStatsCardSaid:=
 Claim7.holds_tied_plain_at .later [] [.data,.data,.data,.data,.pinned] true (true, "7f79b5850d4d1d49fcab43ba146ab5f98c5188ad4dc94c78b0fe1219c75687ac") true
  row_holds (fun _ h=>by cases h) pB (fun _ h=>by cases h) topStats_row_tie rfl ⟨rfl,rfl⟩ pA rfl
  (fun f fn hf hfn=>by
   obtain rfl:f=6:=Option.some.inj (pD.symm.trans hf)|>.symm
   obtain rfl:fn=Tryz.f6:=(Option.some.inj (Tryz.func6.symm.trans hfn)).symm
   exact⟨pE,fun j t ht=>by
    rw[Tryz.params6]at ht
    have hm:t∈[22,3,3,4]:=by simpa using Array.mem_of_getElem? ht
    have hall:([22,3,3,4].all fun u=>!Tryz.prog.wantsStandIn u)=true:=pF
    exact(show Tryz.prog.wantsStandIn t=false by simpa using List.all_eq_true.1 hall t hm)⟩)
  pC
#print axioms proved
end Go.Proofs.YtopngokkgogolaaGreatDoor.topStats
