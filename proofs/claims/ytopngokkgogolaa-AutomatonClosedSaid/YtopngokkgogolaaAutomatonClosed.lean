/-
 AutomatonClosed: for every input the law answers true, and leaves its arguments as they are. No condition.
 The functions that it reaches are read as typed code; each has a contract, shown once; the law follows from the contracts.
-/
import Derived.Test.YtopngokkgogolaaKSpLaw05
import Derived.Test.YtopngokkgogolaaKKY
import Derived.Test.YtopngokkgogolaaKKRW
import Derived.Test.YtopngokkgogolaaKKCL
import Derived.Test.YtopngokkgogolaaKKCM
import Derived.Test.YtopngokkgogolaaKLn0
import Derived.Test.YtopngokkgogolaaKLn1
import Derived.Test.YtopngokkgogolaaKLn2
import Derived.Test.YtopngokkgogolaaRows
import Derived.WalkKit
import Derived.ProofKit
import Derived.JoinedOf
set_option linter.unusedVariables false
set_option linter.unusedSimpArgs false
namespace Go.Proofs.Ytopngokkgogolaa.automatonClosed
open Go.VS Go.Proofs.Ytopngokkgogolaa

theorem Yw:QC (Pg.of Try.prog):=Zq V2
theorem Ua:JJ (Pg.of Try.prog):=YL UD
theorem Ub:JK (Pg.of Try.prog):=YM Rg
theorem SZ:LM (Pg.of Try.prog):=U5 Qa Yw Ua Ub
theorem US:M8 (Pg.of Try.prog):=WD Jo
theorem N5:I2 (Pg.of Try.prog):=U1 K1 US
theorem UT:M9 (Pg.of Try.prog):=WE K2
theorem RK:JH (Pg.of Try.prog):=Te Jp N5 UT
theorem Wj:PO (Pg.of Try.prog):=XQ SF
theorem Wo:OV (Pg.of Try.prog):=Zr K3
theorem Wp:Kr (Pg.of Try.prog):=XT Jr
theorem UU:Na (Pg.of Try.prog):=WG Jq Ub Wp
theorem S0:LN (Pg.of Try.prog):=U6 Iw Wo UU
theorem Wm:PQ (Pg.of Try.prog):=XR Gp S0
theorem Wq:PS (Pg.of Try.prog):=XU HJ Wm Wo
theorem SX:LJ (Pg.of Try.prog):=U3 OK Wq
theorem XC:LL (Pg.of Try.prog):=YN Hq
theorem RN:JM (Pg.of Try.prog):=Th MQ
theorem Wn:PR (Pg.of Try.prog):=XS Qc RN
theorem SU:LH (Pg.of Try.prog):=U2 ON Wn
theorem RO:JO (Pg.of Try.prog):=Tj NG
theorem Lo:GS (Pg.of Try.prog):=RX MP RO
theorem RL:JI (Pg.of Try.prog):=Tf NF SU Lo
theorem UQ:M6 (Pg.of Try.prog):=WA K0 GL Gm Gn XC RL Lo
theorem SY:LK (Pg.of Try.prog):=U4 OL
theorem UR:M7 (Pg.of Try.prog):=WC OM
theorem XB:Sg (Pg.of Try.prog):=YK Rf
theorem Wi:PN (Pg.of Try.prog):=XP Qb UR XB
theorem RM:JL (Pg.of Try.prog):=Tg OJ SX UQ SY Wi N5
theorem OQ:HE (Pg.of Try.prog):=Go.Proofs.Try.Uw SZ RK Ua Wj RM
theorem Ym(x:DP AZ.ps)(gx:(tyP AZ.ps).Good x):Go.VS.Fn (Pg.of Try.prog) "mergelens/mergelenslaw05.AutomatonClosed" AZ x fun(d:Bool) _=>d=true:=Ki OQ x

theorem own:ownKnob Try.prog.godebug=none:=by kernel_rfl
theorem Ys:(Qu.all fun e=>!(Try.prog.globalNamed e.1).isSome)=true:=by kernel_rfl
theorem laidOut:laidOutB Try.prog=true:=by kernel_rfl
theorem VT:I3 Try.prog Try.f3.params.toList AZ.ps=true:=by kernel_rfl
theorem readable:Try.f3.params.toList.all (fun t=>Try.prog.readableRec t&&decide (t<Try.prog.types.size))=true:=by kernel_rfl

set_option maxRecDepth 100000 in
theorem lifted(os:Os)(started:os.Started)(H:Type)(enc:TypeId×Value→H):
  ReturnsInHanded {} Try.checked os 3 .any (Rows.automatonClosedSpec.pre6 enc Try.prog Try.f3 Rows.automatonClosedRow.domain false) (Rows.automatonClosedSpec.post enc Try.prog Try.f3 false true false false):=by
 refine returnsInHanded_of_change_sized (C:=Try.checked) own started (by kernel_rfl) Try.func3
  (ChangeSpec.witness6 (enc:=enc) (C:=Try.checked) false ⟨#[],#[.slice none 0 0,.int .i64 0,.slice none 0 0,.int .i64 0,.bool false,.bool false],[]⟩ 8 (by kernel_rfl) (by kernel_rfl) (by kernel_rfl) (by kernel_rfl)) ?_
 intro W base args ds gs before hval hW hc hsz hlast
 exact Qe (P:=Try.prog) (fun x gx=>Ym x gx) Try.func3 rfl VT laidOut readable rfl Try.underlying4 rfl (fun ds hds=>by
  match ds,hds with
  |[d1,d2,d3,d4,d5,d6],_=>rfl) W (HY.none Ys (by kernel_rfl)) base args ds gs before hval hW hc hsz

theorem proved:Rows.AutomatonClosedSaid:=
 OpenClaim.holds_of_wide 3 Try.f3 rfl rfl rfl rfl rfl rfl rfl ⟨rfl,rfl,rfl,rfl,rfl⟩ rfl rfl rfl rfl rfl (by kernel_rfl) Try.func3 (by kernel_rfl)
  (of_decide_eq_true (by kernel_rfl)) (by unfold Func.isWrapper;first|(rw[if_pos (by decide+kernel)];kernel_rfl)|(rw[if_neg (by decide+kernel)];exact⟨rfl,rfl⟩))
  (fun os started H enc henc=>lifted os started H enc)
#print axioms proved
end Go.Proofs.Ytopngokkgogolaa.automatonClosed
