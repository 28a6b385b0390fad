/-
 SimilarPairs: for every input the law answers true, and leaves its arguments as they are. No condition but the tied tables.
 The functions that it reaches are read as typed code; each has a contract, shown once; the law follows from the contracts.
-/
import Derived.Test.YtfkfmokccekccaaDoorKSpL22g
import Derived.Test.YtfkfmokccekccaaDoorKKShelf
import Derived.Test.YtfkfmokccekccaaDoorKKT
import Derived.Test.YtfkfmokccekccaaDoorKKW
import Derived.Test.YtfkfmokccekccaaDoorKKV
import Derived.Test.YtfkfmokccekccaaDoorKKM
import Derived.Test.YtfkfmokccekccaaDoorKKN
import Derived.Test.YtfkfmokccekccaaDoorKKO
import Derived.Test.YtfkfmokccekccaaDoorKKX
import Derived.Test.YtfkfmokccekccaaDoorKKY
import Derived.Test.YtfkfmokccekccaaDoorKKZ
import Derived.Test.YtfkfmokccekccaaDoorKKMB
import Derived.Test.YtfkfmokccekccaaDoorKKRN
import Derived.Test.YtfkfmokccekccaaDoorKKRO
import Derived.Test.YtfkfmokccekccaaDoorKKRS
import Derived.Test.YtfkfmokccekccaaDoorKKRT
import Derived.Test.YtfkfmokccekccaaDoorKKRU
import Derived.Test.YtfkfmokccekccaaDoorKKRV
import Derived.Test.YtfkfmokccekccaaDoorKLn0
import Derived.Test.YtfkfmokccekccaaDoorKLn1
import Derived.Test.YtfkfmokccekccaaDoorKLn2
import Derived.Test.YtfkfmokccekccaaDoorRows
import Derived.Test.YtfkfmokccekccaaDoorCards
import Derived.Test.YtfkfmokccekccaaDoorTie
import Derived.WalkKit
import Derived.ProofKit
import Derived.JoinedOf
import Derived.LaidMore
import Derived.Lay
import Derived.SevenTiedAt
import Derived.Stop.Joined
import Derived.Lib.LaidTab
set_option linter.unusedVariables false
set_option linter.unusedSimpArgs false
namespace Go.Proofs.YtfkfmokccekccaaDoor.similarPairs
open Go.VS Go.Proofs.YtfkfmokccekccaaDoor

theorem Xo:OD (Pg.of Tryd.prog):=Aax WX
theorem UC:Lb (Pg.of Tryd.prog):=ZM Vj
theorem R8:Mo (Pg.of Tryd.prog):=YH Tf UC
theorem Xp:PH (Pg.of Tryd.prog):=YG Te Xo UC R8
theorem Mc:G7 (Pg.of Tryd.prog):=TP Oo
theorem VB:MF (Pg.of Tryd.prog):=XC Tg Xo R8 Mc
theorem AeS:Ac0 (Pg.of Tryd.prog):=Afq AdY Xo UC Xp VB
theorem Ad0:AbY (Pg.of Tryd.prog):=Go.Proofs.Tryd.Aem (fun _=>False)
theorem AgP:Ae3 (Pg.of Tryd.prog):=Ahc AdG Ad0
theorem AgR:Ae5 (Pg.of Tryd.prog):=Ahe Abv AgP
theorem AgT:Ae7 (Pg.of Tryd.prog):=Ahg Abr AgR
theorem AeR:Ac1 (Pg.of Tryd.prog):=Go.Proofs.Tryd.Afo
theorem RY:Fy (Pg.of Tryd.prog):=Go.Proofs.Tryd.SX (fun _=>False)
theorem Qn:ET (Pg.of Tryd.prog):=Go.Proofs.Tryd.Su (fun _=>False)
theorem Tz:Lf (Pg.of Tryd.prog):=VN P7 Qn
theorem Ty:Ld (Pg.of Tryd.prog):=VM P6 RY Tz
theorem AgQ:Ae4 (Pg.of Tryd.prog):=Ahd AdH Ty
theorem AgS:Ae6 (Pg.of Tryd.prog):=Ahf Abw AgQ
theorem AgU:Ae8 (Pg.of Tryd.prog):=Ahh Abs AgS
theorem Ad1:AbZ (Pg.of Tryd.prog):=Aey Aet AgT AeR AgU
theorem AfR:Ac6 (Pg.of Tryd.prog):=Agt AeG Ad1
theorem AfS:AcH (Pg.of Tryd.prog):=Agu AeF
theorem LF:CV (Pg.of Tryd.prog):=Go.Proofs.Tryd.OB (fun _=>False)
theorem TA:GF (Pg.of Tryd.prog):=VO P8 Ty LF
theorem Adj:Acd (Pg.of Tryd.prog):=Go.Proofs.Tryd.Agl TA
theorem Afp:Adb (Pg.of Tryd.prog):=AfY Adv AfS Adj
theorem AgO:Ae2 (Pg.of Tryd.prog):=Go.Proofs.Tryd.Aha AfR Afp
theorem AfQ:AcG (Pg.of Tryd.prog):=Ags Aes
theorem AfP:Adz (Pg.of Tryd.prog):=Agr Aer
theorem AeT:Ace (Pg.of Tryd.prog):=Afr AdX Adj
theorem Zj(x:DP Abj.ps)(gx:(tyP Abj.ps).Good x):Go.VS.Fn (Pg.of Tryd.prog) "mergelens/mergelenslaw22.SimilarPairs" Abj x fun(d:Bool) _=>d=true:=Adw AcR AeS AgO UC AfQ Adj AfP AeT x

theorem own:ownKnob Tryd.prog.godebug=none:=by kernel_rfl
theorem laidOut:laidOutB Tryd.prog=true:=by kernel_rfl
theorem WM:Im Tryd.prog Tryd.f3.params.toList Abj.ps=true:=by kernel_rfl
theorem readable:Tryd.f3.params.toList.all (fun t=>Tryd.prog.readableRec t&&decide (t<Tryd.prog.types.size))=true:=by kernel_rfl
theorem O7{P:Program}{x:String×DataW Unit}{r:List (String×DataW Unit)}{w:World}(h:laidMet P (x::r) w):laidMet P r w:=by
 obtain⟨ps,⟨g,t,cs,fuel,p,q,h1,h2,h3,h4,h5,rfl⟩,hnd,hall⟩:=h
 exact⟨q,h5,(List.nodup_append.1 hnd).2.1,fun b off hm=>hall b off (List.mem_append_right _ hm)⟩
theorem tabs{W:World}(h:laidMetH Tryd.prog Rows.similarPairsRow.laid W)(hsh:W.ShapedOpen Tryd.prog):Hu Tryd.prog W:=⟨fun e he _=>absurd he (by simp[UP]),fun g hg=>by
 obtain rfl:g=0:=Option.some.inj (hg.symm.trans (show Tryd.prog.globalNamed "internal/bytealg.MaxLen" =some 0 by kernel_rfl))
 exact TL (t:=3) hsh (of_decide_eq_true (by kernel_rfl)) (by kernel_rfl) (by kernel_rfl) (by kernel_rfl) Tryd.underlying3⟩

set_option maxRecDepth 100000 in
theorem lifted(os:Os)(started:os.Started)(H:Type)(enc:TypeId×Value→H):
  ReturnsInHanded {} Tryd.checked os 3 .any (fun w args=>(Rows.similarPairsSpec.pre enc Tryd.prog Tryd.f3 Rows.similarPairsRow.domain false w args∧laidMetH Tryd.prog Rows.similarPairsRow.laid w)∧sizedMet enc Tryd.prog Tryd.f3 (OpenSpec.ofChange Rows.similarPairsSpec) false w args)
   (Rows.similarPairsSpec.post enc Tryd.prog Tryd.f3 false true false false):=by
 refine Ju (C:=Tryd.checked) (X:=fun w _=>laidMetH Tryd.prog Rows.similarPairsRow.laid w) (fun _ _ _ hh h=>h.of_heap hh) own started (by kernel_rfl) Tryd.func3
  (ChangeSpec.witness_shaped (enc:=enc) (C:=Tryd.checked) (os:=os) (X:=fun w _=>laidMetH Tryd.prog Rows.similarPairsRow.laid w) false (World.laidAll Tryd.prog os Rows.similarPairsRow.laid) #[.slice none 0 0,.int .i64 0] 8 (World.laidAll_os _ _ _)
   (World.shaped_of_ZipB (by kernel_rfl) (by kernel_rfl)) (by kernel_rfl) (by kernel_rfl) (by kernel_rfl)
   (by rw[MakeChecks.laidMetH_plain _ _ _ (by kernel_rfl)];exact laidMet_laidAll _ (by kernel_rfl) (by kernel_rfl))) ?_
 intro W base args ds gs before hsh hval hW hc hsz hL _
 exact Qb (P:=Tryd.prog) (fun x gx=>Zj x gx) Tryd.func3 rfl WM laidOut readable rfl Tryd.underlying4 rfl (fun ds hds=>by
  match ds,hds with
  |[d1,d2],_=>rfl) W (tabs hL hsh) base args ds gs before hval hW hc hsz

theorem row_holds:Rows.SimilarPairsSaid:=
 OpenClaim.holds_of_wide 3 Tryd.f3 rfl rfl rfl rfl rfl rfl rfl ⟨rfl,rfl,rfl,rfl,rfl⟩ rfl rfl rfl rfl rfl (by kernel_rfl) Tryd.func3 (by kernel_rfl)
  (of_decide_eq_true (by kernel_rfl)) (by unfold Func.isWrapper;first|(rw[if_pos (by decide+kernel)];kernel_rfl)|(rw[if_neg (by decide+kernel)];exact⟨rfl,rfl⟩))
  (fun os started H enc henc=>lifted os started H enc)

theorem proved:Rows.SimilarPairsCardSaid:=
 Claim7.holds_tied_plain_at .later [] [.data,.pinned] true (true, "1b1793acc467ef3ffcf4283088472626a7d34b1beba2155576930cb96845ca0e") false
  row_holds (fun _ h=>by cases h) (by kernel_rfl) (fun _ h=>by cases h) similarPairs_row_tie rfl ⟨rfl,rfl⟩ (by kernel_rfl) rfl
  (fun f fn hf hfn=>by
   obtain rfl:f=3:=Option.some.inj ((show Tryd.prog.funcNamed "mergelens/mergelenslaw22.SimilarPairs" =some 3 by kernel_rfl).symm.trans hf)|>.symm
   obtain rfl:fn=Tryd.f3:=(Option.some.inj (Tryd.func3.symm.trans hfn)).symm
   exact⟨by kernel_rfl,fun j t ht=>by
    rw[Tryd.params3]at ht
    have hm:t∈[22,3]:=by simpa using Array.mem_of_getElem? ht
    have hall:([22,3].all fun u=>!Tryd.prog.wantsStandIn u)=true:=by kernel_rfl
    exact(show Tryd.prog.wantsStandIn t=false by simpa using List.all_eq_true.1 hall t hm)⟩)
  (by kernel_rfl)
#print axioms proved
end Go.Proofs.YtfkfmokccekccaaDoor.similarPairs
