/-
 CommandParses: for every input the law answers true, and leaves its arguments as they are. No condition.
 The functions that it reaches are read as typed code; each has a contract, shown once; the law follows from the contracts.
-/
import Derived.Test.YtcaandgkdmidkaaKSpL32
import Derived.Test.YtcaandgkdmidkaaKKShelf
import Derived.Test.YtcaandgkdmidkaaKKB
import Derived.Test.YtcaandgkdmidkaaKKQ
import Derived.Test.YtcaandgkdmidkaaKKP
import Derived.Test.YtcaandgkdmidkaaKKA
import Derived.Test.YtcaandgkdmidkaaKKC
import Derived.Test.YtcaandgkdmidkaaKKD
import Derived.Test.YtcaandgkdmidkaaKLn0
import Derived.Test.YtcaandgkdmidkaaKLn1
import Derived.Test.YtcaandgkdmidkaaKLn2
import Derived.Test.YtcaandgkdmidkaaRows
import Derived.WalkKit
import Derived.ProofKit
import Derived.JoinedOf
set_option linter.unusedVariables false
set_option linter.unusedSimpArgs false
namespace Go.Proofs.Ytcaandgkdmidkaa.commandParses
open Go.VS Go.Proofs.Ytcaandgkdmidkaa

theorem XU : PV (Pg.of Try.prog) := YA Vr
theorem Pz : I7 (Pg.of Try.prog) := X7 TO
theorem IB : EO (Pg.of Try.prog) := VT Pm
theorem VH : O7 (Pg.of Try.prog) := Xc RQ Pz
theorem Sc : GD (Pg.of Try.prog) := Uz Pl XU Pz IB VH
theorem Ue : Hy (Pg.of Try.prog) := VU Pn
theorem QY : I8 (Pg.of Try.prog) := Sl MR
theorem Nl : Ih (Pg.of Try.prog) := Uu NZ
theorem Nn : Ii (Pg.of Try.prog) := Uv N0 Nl
theorem Kr : DQ (Pg.of Try.prog) := Rc MT IB Ue QY Nn
theorem PB : Hz (Pg.of Try.prog) := Rg NX Pz
theorem Q1 : Fz (Pg.of Try.prog) := Sp MU
theorem Uc : Mb (Pg.of Try.prog) := Go.Proofs.Try.VK Q1
theorem Ui : Mh (Pg.of Try.prog) := VY IK
theorem Sb : KO (Pg.of Try.prog) := Uy HO Ui
theorem Sd : KR (Pg.of Try.prog) := UA HP Sb
theorem Uj : Mi (Pg.of Try.prog) := VZ Ps
theorem VJ : O8 (Pg.of Try.prog) := Xe Jh Uc Sd Uj
theorem Uf : Mc (Pg.of Try.prog) := VV Pq VJ
theorem Uh : Mf (Pg.of Try.prog) := VX LQ
theorem Ug : Me (Pg.of Try.prog) := VW Pr
theorem R8 : GC (Pg.of Try.prog) := Ut N4 Ug
theorem Ud : Mg (Pg.of Try.prog) := Go.Proofs.Try.WX R8
theorem Nk : Fs (Pg.of Try.prog) := Us LP Uf Uh Ud
theorem Sa : KN (Pg.of Try.prog) := Ux N2
theorem PA : Hx (Pg.of Try.prog) := Rf LR Nn Sa Nl
theorem R9 : KM (Pg.of Try.prog) := Uw N1 PA
theorem VI : JD (Pg.of Try.prog) := Xd Po IB
theorem QZ : GU (Pg.of Try.prog) := Sm MS
theorem QX : Fx (Pg.of Try.prog) := Sk N3 R9 VI IB QZ Kr
theorem Q0 : Fy (Pg.of Try.prog) := Sn NY Nk
theorem XK (x : DP AJ.ps) (gx : (tyP AJ.ps).Good x) : Go.VS.Fn (Pg.of Try.prog) "mergelens/mergelenslaw32.CommandParses" AJ x fun (d : Bool) _ => d = true := Lg Hu Sc Kr PB Nk QX Q0 x

theorem own : ownKnob Try.prog.godebug = none := by kernel_rfl
theorem XQ : (PL.all fun e => !(Try.prog.globalNamed e.1).isSome) = true := by kernel_rfl
theorem laidOut : laidOutB Try.prog = true := by kernel_rfl
theorem Vh : Ij Try.prog Try.f3.params.toList AJ.ps = true := by kernel_rfl
theorem readable : Try.f3.params.toList.all (fun t => Try.prog.readableRec t && decide (t < Try.prog.types.size)) = true := by kernel_rfl

set_option maxRecDepth 100000 in
theorem lifted (os : Os) (started : os.Started) (H : Type) (enc : TypeId × Value → H) :
  ReturnsInHanded {} Try.checked os 3 .any (Rows.commandParsesSpec.pre6 enc Try.prog Try.f3 Rows.commandParsesRow.domain false) (Rows.commandParsesSpec.post enc Try.prog Try.f3 false true false false) := by
 refine returnsInHanded_of_change_sized (C := Try.checked) own started (by kernel_rfl) Try.func3
  (ChangeSpec.witness6 (enc := enc) (C := Try.checked) false ⟨#[], #[.string ⟨#[]⟩, .slice none 0 0, .int .i64 0, .int .i64 0, .int .i64 0], []⟩ 8 (by kernel_rfl) (by kernel_rfl) (by kernel_rfl) (by kernel_rfl)) ?_
 intro W base args ds gs before hval hW hc hsz hlast
 exact Pu (P := Try.prog) (fun x gx => XK x gx) Try.func3 rfl Vh laidOut readable rfl Try.underlying4 rfl (fun ds hds => by
  match ds, hds with
  | [d1, d2, d3, d4, d5], _ => rfl) W (Hi.none XQ (by kernel_rfl)) base args ds gs before hval hW hc hsz

theorem proved : Rows.CommandParsesSaid :=
 OpenClaim.holds_of_wide 3 Try.f3 rfl rfl rfl rfl rfl rfl rfl ⟨rfl, rfl, rfl, rfl, rfl⟩ rfl rfl rfl rfl rfl (by kernel_rfl) Try.func3 (by kernel_rfl)
  (of_decide_eq_true (by kernel_rfl)) (by unfold Func.isWrapper; first | (rw [if_pos (by decide +kernel)]; kernel_rfl) | (rw [if_neg (by decide +kernel)]; exact ⟨rfl, rfl⟩))
  (fun os started H enc henc => lifted os started H enc)
#print axioms proved
end Go.Proofs.Ytcaandgkdmidkaa.commandParses
