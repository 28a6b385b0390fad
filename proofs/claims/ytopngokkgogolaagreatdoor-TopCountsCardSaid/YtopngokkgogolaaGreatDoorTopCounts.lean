/-
 TopCounts: for every input the law answers true, and leaves its arguments as they are. No condition but the tied tables.
 The functions that it reaches are read as typed code; each has a contract, shown once; the law follows from the contracts.
-/
import Derived.Test.YtopngokkgogolaaGreatDoorKZ0
import Derived.Test.YtopngokkgogolaaGreatDoorKZ1
import Derived.Test.YtopngokkgogolaaGreatDoorRows
import Derived.Test.YtopngokkgogolaaGreatDoorCards
import Derived.Test.YtopngokkgogolaaGreatDoorTie
import Derived.WalkKit
import Derived.ProofKit
import Derived.JoinedOf
import Derived.LaidMore
import Derived.Lay
import Derived.SevenTiedAt
import Derived.Stop.Joined
import Derived.Lib.LaidTab
set_option linter.unusedVariables false
set_option linter.unusedSimpArgs false
namespace Go.Proofs.YtopngokkgogolaaGreatDoor.topCounts
open Go.VS Go.Proofs.YtopngokkgogolaaGreatDoor
theorem own:ownKnob Tryz.prog.godebug=none:=by kernel_rfl
theorem laidOut:laidOutB Tryz.prog=true:=by kernel_rfl
theorem Ah3:Pm Tryz.prog Tryz.f5.params.toList DD.ps=true:=by kernel_rfl
theorem readable:Tryz.f5.params.toList.all (fun t=>Tryz.prog.readableRec t&&decide (t<Tryz.prog.types.size))=true:=by kernel_rfl
theorem Anb{P:Program}{x:String×DataW Unit}{r:List (String×DataW Unit)}{w:World}(h:laidMet P (x::r) w):laidMet P r w:=by
 obtain⟨ps,⟨g,t,cs,fuel,p,q,h1,h2,h3,h4,h5,rfl⟩,hnd,hall⟩:=h;exact⟨q,h5,(List.nodup_append.1 hnd).2.1,fun b off hm=>hall b off (List.mem_append_right _ hm)⟩
theorem tabs{W:World}(h:laidMetH Tryz.prog Rows.topCountsRow.laid W)(hsh:W.ShapedOpen Tryz.prog):NL Tryz.prog W:=⟨fun e he _=>absurd he (by simp[Aae]),fun g hg=>by
 obtain rfl:g=0:=Option.some.inj (hg.symm.trans (show Tryz.prog.globalNamed "internal/bytealg.MaxLen" =some 0 by kernel_rfl))
 exact Aej (t:=3) hsh (of_decide_eq_true (by kernel_rfl)) (by kernel_rfl) (by kernel_rfl) (by kernel_rfl) Tryz.underlying3⟩

set_option maxRecDepth 100000 in
theorem lifted(os:Os)(started:os.Started)(H:Type)(enc:TypeId×Value→H):
  ReturnsInHanded {} Tryz.checked os 5 .any (fun w args=>(Rows.topCountsSpec.pre enc Tryz.prog Tryz.f5 Rows.topCountsRow.domain false w args∧laidMetH Tryz.prog Rows.topCountsRow.laid w)∧sizedMet enc Tryz.prog Tryz.f5 (OpenSpec.ofChange Rows.topCountsSpec) false w args)
   (Rows.topCountsSpec.post enc Tryz.prog Tryz.f5 false true false false):=by
 refine QO (C:=Tryz.checked) (X:=fun w _=>laidMetH Tryz.prog Rows.topCountsRow.laid w) (fun _ _ _ hh h=>h.of_heap hh) own started (by kernel_rfl) Tryz.func5
  (ChangeSpec.witness_shaped (enc:=enc) (C:=Tryz.checked) (os:=os) (X:=fun w _=>laidMetH Tryz.prog Rows.topCountsRow.laid w) false (World.laidAll Tryz.prog os Rows.topCountsRow.laid) #[.slice none 0 0,.int .i64 0] 8 (World.laidAll_os _ _ _)
   (World.shaped_of_ZipB (by kernel_rfl) (by kernel_rfl)) (by kernel_rfl) (by kernel_rfl) (by kernel_rfl)
   (by rw[MakeChecks.laidMetH_plain _ _ _ (by kernel_rfl)];exact laidMet_laidAll _ (by kernel_rfl) (by kernel_rfl))) ?_
 intro W base args ds gs before hsh hval hW hc hsz hL _
 exact ZJ (P:=Tryz.prog) (fun x gx=>AlT x gx) Tryz.func5 rfl Ah3 laidOut readable rfl Tryz.underlying4 rfl (fun ds hds=>by
  match ds,hds with
  |[d1,d2],_=>rfl) W (tabs hL hsh) base args ds gs before hval hW hc hsz

theorem row_holds:Rows.TopCountsSaid:=
 OpenClaim.holds_of_wide 5 Tryz.f5 rfl rfl rfl rfl rfl rfl rfl ⟨rfl,rfl,rfl,rfl,rfl⟩ rfl rfl rfl rfl rfl (by kernel_rfl) Tryz.func5 facts
  (of_decide_eq_true (by kernel_rfl)) (by unfold Func.isWrapper;first|(rw[if_pos (by decide+kernel)];kernel_rfl)|(rw[if_neg (by decide+kernel)];exact⟨rfl,rfl⟩))
  (fun os started H enc henc=>lifted os started H enc)

theorem proved:Rows.TopCountsCardSaid:=
 Claim7.holds_tied_plain_at .later [] [.data,.pinned] true (true, "7f79b5850d4d1d49fcab43ba146ab5f98c5188ad4dc94c78b0fe1219c75687ac") true
  row_holds (fun _ h=>by cases h) (by kernel_rfl) (fun _ h=>by cases h) topCounts_row_tie rfl ⟨rfl,rfl⟩ (by kernel_rfl) rfl
  (fun f fn hf hfn=>by
   obtain rfl:f=5:=Option.some.inj ((show Tryz.prog.funcNamed "mergelens/mergelenstop.TopCounts" =some 5 by kernel_rfl).symm.trans hf)|>.symm
   obtain rfl:fn=Tryz.f5:=(Option.some.inj (Tryz.func5.symm.trans hfn)).symm
   exact⟨by kernel_rfl,fun j t ht=>by
    rw[Tryz.params5]at ht
    have hm:t∈[22,3]:=by simpa using Array.mem_of_getElem? ht
    have hall:([22,3].all fun u=>!Tryz.prog.wantsStandIn u)=true:=by kernel_rfl
    exact(show Tryz.prog.wantsStandIn t=false by simpa using List.all_eq_true.1 hall t hm)⟩)
  (by kernel_rfl)
#print axioms proved
end Go.Proofs.YtopngokkgogolaaGreatDoor.topCounts
