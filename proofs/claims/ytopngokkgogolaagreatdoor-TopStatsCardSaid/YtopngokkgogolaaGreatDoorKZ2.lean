/- The row holds. -/
import Derived.Test.YtopngokkgogolaaGreatDoorKZ0
import Derived.Test.YtopngokkgogolaaGreatDoorKZ1
import Derived.Test.YtopngokkgogolaaGreatDoorRows
import Derived.Test.YtopngokkgogolaaGreatDoorCards
import Derived.Test.YtopngokkgogolaaGreatDoorTie
import Derived.WalkKit
import Derived.ProofKit
import Derived.JoinedOf
import Derived.LaidMore
import Derived.Lay
import Derived.SevenTiedAt
import Derived.Stop.Joined
import Derived.Lib.LaidTab
set_option linter.unusedVariables false
set_option linter.unusedSimpArgs false
namespace Go.Proofs.YtopngokkgogolaaGreatDoor.topStats
open Go.VS Go.Proofs.YtopngokkgogolaaGreatDoor
theorem own:ownKnob Tryz.prog.godebug=none:=by kernel_rfl
theorem laidOut:laidOutB Tryz.prog=true:=by kernel_rfl
theorem AkH:Py Tryz.prog Tryz.f6.params.toList D0.ps=true:=by kernel_rfl
theorem readable:Tryz.f6.params.toList.all (fun t=>Tryz.prog.readableRec t&&decide (t<Tryz.prog.types.size))=true:=by kernel_rfl
theorem Z0{P:Program}{x:String×DataW Unit}{r:List (String×DataW Unit)}{w:World}(h:laidMet P (x::r) w):laidMet P r w:=by
 obtain⟨ps,⟨g,t,cs,fuel,p,q,h1,h2,h3,h4,h5,rfl⟩,hnd,hall⟩:=h;exact⟨q,h5,(List.nodup_append.1 hnd).2.1,fun b off hm=>hall b off (List.mem_append_right _ hm)⟩
theorem tabs{W:World}(h:laidMetH Tryz.prog Rows.topStatsRow.laid W)(hsh:W.ShapedOpen Tryz.prog):NN Tryz.prog W:=⟨fun e he hs=>by
 obtain rfl:=List.mem_singleton.1 he;rw[MakeChecks.laidMetH_plain _ _ _ (by kernel_rfl)]at h
 have hd:(Rows.laid_internal_strconv_uint64pow10:DataW Unit)=Lib.tabData .u64 Lib.pow10Tab:=by kernel_rfl
 have h':laidMet Tryz.prog [("internal/strconv.uint64pow10",Lib.tabData .u64 Lib.pow10Tab),("unicode/utf8.acceptRanges",Rows.laid_unicode_utf8_acceptRanges),("unicode/utf8.first",Rows.laid_unicode_utf8_first)] W:=by
  rw[←hd];exact(Z0 (Z0 h))
 exact Lib.tabIs_of_head (g:=1) (t:=427) (e:=201) (n:=20) (by kernel_rfl) (by kernel_rfl) Tryz.underlying427 Tryz.underlying201 (by kernel_rfl) (by kernel_rfl) h',fun g hg=>by
 obtain rfl:g=0:=Option.some.inj (hg.symm.trans (show Tryz.prog.globalNamed "internal/bytealg.MaxLen" =some 0 by kernel_rfl))
 exact Agh (t:=3) hsh (of_decide_eq_true (by kernel_rfl)) (by kernel_rfl) (by kernel_rfl) (by kernel_rfl) Tryz.underlying3⟩

set_option maxRecDepth 100000 in
theorem lifted(os:Os)(started:os.Started)(H:Type)(enc:TypeId×Value→H):
  ReturnsInHanded {} Tryz.checked os 6 .any (fun w args=>(Rows.topStatsSpec.pre enc Tryz.prog Tryz.f6 Rows.topStatsRow.domain false w args∧laidMetH Tryz.prog Rows.topStatsRow.laid w)∧sizedMet enc Tryz.prog Tryz.f6 (OpenSpec.ofChange Rows.topStatsSpec) false w args)
   (Rows.topStatsSpec.post enc Tryz.prog Tryz.f6 false true false false):=by
 refine Rf (C:=Tryz.checked) (X:=fun w _=>laidMetH Tryz.prog Rows.topStatsRow.laid w) (fun _ _ _ hh h=>h.of_heap hh) own started (by kernel_rfl) Tryz.func6
  (ChangeSpec.witness_shaped (enc:=enc) (C:=Tryz.checked) (os:=os) (X:=fun w _=>laidMetH Tryz.prog Rows.topStatsRow.laid w) false (World.laidAll Tryz.prog os Rows.topStatsRow.laid) #[.slice none 0 0,.int .i64 0,.int .i64 0,.bool false] 8 (World.laidAll_os _ _ _)
   (World.shaped_of_ZipB (by kernel_rfl) (by kernel_rfl)) (by kernel_rfl) (by kernel_rfl) (by kernel_rfl)
   (by rw[MakeChecks.laidMetH_plain _ _ _ (by kernel_rfl)];exact laidMet_laidAll _ (by kernel_rfl) (by kernel_rfl))) ?_
 intro W base args ds gs before hsh hval hW hc hsz hL _
 exact Abd (P:=Tryz.prog) (fun x gx=>Apr x gx) Tryz.func6 rfl AkH laidOut readable rfl Tryz.underlying4 rfl (fun ds hds=>by
  match ds,hds with
  |[d1,d2,d3,d4],_=>rfl) W (tabs hL hsh) base args ds gs before hval hW hc hsz

theorem row_holds:Rows.TopStatsSaid:=
 OpenClaim.holds_of_wide 6 Tryz.f6 rfl rfl rfl rfl rfl rfl rfl ⟨rfl,rfl,rfl,rfl,rfl⟩ rfl rfl rfl rfl rfl (by kernel_rfl) Tryz.func6 facts
  (of_decide_eq_true (by kernel_rfl)) (by unfold Func.isWrapper;first|(rw[if_pos (by decide+kernel)];kernel_rfl)|(rw[if_neg (by decide+kernel)];exact⟨rfl,rfl⟩))
  (fun os started H enc henc=>lifted os started H enc)
end Go.Proofs.YtopngokkgogolaaGreatDoor.topStats
