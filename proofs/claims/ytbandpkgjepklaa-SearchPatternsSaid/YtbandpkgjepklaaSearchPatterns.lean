/-
 SearchPatterns: for every input the law answers true, and leaves its arguments as they are. No condition.
 The functions that it reaches are read as typed code; each has a contract, shown once; the law follows from the contracts.
-/
import Derived.Test.YtbandpkgjepklaaKS1
import Derived.Test.YtbandpkgjepklaaKKShelf
import Derived.Test.YtbandpkgjepklaaKKS
import Derived.Test.YtbandpkgjepklaaKKR
import Derived.Test.YtbandpkgjepklaaKLn0
import Derived.Test.YtbandpkgjepklaaKLn1
import Derived.Test.YtbandpkgjepklaaKLn2
import Derived.Test.YtbandpkgjepklaaRows
import Derived.WalkKit
import Derived.ProofKit
import Derived.JoinedOf
set_option linter.unusedVariables false
set_option linter.unusedSimpArgs false
namespace Go.Proofs.Ytbandpkgjepklaa.searchPatterns
open Go.VS Go.Proofs.Ytbandpkgjepklaa

theorem AaC : Sy (Pg.of Try.prog) := Abk Yq
theorem Wd : NF (Pg.of Try.prog) := AaP WN
theorem T4 : L0 (Pg.of Try.prog) := Vl QF AaC Wd
theorem KK (kp : Value → Prop) : Fp ⟨Try.prog, kp⟩ := ZN LH
theorem MZ (kp : Value → Prop) : Gq ⟨Try.prog, kp⟩ := ZP Mg
theorem WR (kp : Value → Prop) : Gx ⟨Try.prog, kp⟩ := YS KG (MZ kp)
theorem QN (kp : Value → Prop) : Jg ⟨Try.prog, kp⟩ := Go.Proofs.Try.RY kp 
theorem Tf (kp : Value → Prop) : FZ ⟨Try.prog, kp⟩ := Vq JU (MZ kp) (KK kp) (QN kp)
theorem WU (kp : Value → Prop) : Kc ⟨Try.prog, kp⟩ := YU LI
theorem O5 (kp : Value → Prop) : FY ⟨Try.prog, kp⟩ := AaR Mi (KK kp)
theorem WQ (kp : Value → Prop) : Pb ⟨Try.prog, kp⟩ := YR RW
theorem UU (kp : Value → Prop) : NG ⟨Try.prog, kp⟩ := Xo QL (WQ kp)
theorem Tj (kp : Value → Prop) : Hu ⟨Try.prog, kp⟩ := Vu JX (UU kp)
theorem Th (kp : Value → Prop) : Ht ⟨Try.prog, kp⟩ := Vs JV (Tj kp) (O5 kp) (KK kp)
theorem UY (kp : Value → Prop) : IU ⟨Try.prog, kp⟩ := Xu Ia (O5 kp) (Th kp)
theorem QM (kp : Value → Prop) : Jf ⟨Try.prog, kp⟩ := Go.Proofs.Try.RO kp 
theorem Zq (kp : Value → Prop) : Uy ⟨Try.prog, kp⟩ := Go.Proofs.Try.Aar kp 
theorem KL (kp : Value → Prop) : G2 ⟨Try.prog, kp⟩ := ZT N2
theorem OA (kp : Value → Prop) : F5 ⟨Try.prog, kp⟩ := Vw LK (KL kp)
theorem UX (kp : Value → Prop) : NI ⟨Try.prog, kp⟩ := Xt MW (OA kp) (KL kp)
theorem PM (kp : Value → Prop) : Jh ⟨Try.prog, kp⟩ := ZS LJ (KK kp)
theorem WT (kp : Value → Prop) : Kb ⟨Try.prog, kp⟩ := YT LG (QM kp) (Zq kp) (UX kp) (PM kp) (KL kp) (OA kp)
theorem Rk (kp : Value → Prop) : IQ ⟨Try.prog, kp⟩ := YQ Ju
theorem O6 (kp : Value → Prop) : Kd ⟨Try.prog, kp⟩ := AaS Mj (MZ kp)
theorem UW (kp : Value → Prop) : Hl ⟨Try.prog, kp⟩ := Xs KF (O5 kp) (WT kp) (Rk kp) (O6 kp)
theorem Yu (kp : Value → Prop) : K9 ⟨Try.prog, kp⟩ := ZR Mh (Rk kp) (O6 kp)
theorem Ti (kp : Value → Prop) : F0 ⟨Try.prog, kp⟩ := Vt JW (PM kp) (KL kp) (O6 kp)
theorem Tk (kp : Value → Prop) : F4 ⟨Try.prog, kp⟩ := Vv JY (PM kp) (KL kp) (O6 kp)
theorem Tg (kp : Value → Prop) : L4 ⟨Try.prog, kp⟩ := Vr Jt HK KH HL (KK kp) (WR kp) (Tf kp) (WU kp) (UY kp) (MZ kp) (O5 kp) (UW kp) (Yu kp) (Ti kp) (Tk kp)
theorem Vb : QX (Pg.of Try.prog) := fun kp => Tg kp
theorem P8 : Hk (Pg.of Try.prog) := Go.Proofs.Try.YB Vb
theorem Aii : Ago (Pg.of Try.prog) := AiK AhG AaC Wd
theorem AjI : Agn (Pg.of Try.prog) := AjZ Afc
theorem Ah2 : Acg (Pg.of Try.prog) := AcN AgE
theorem AiV : Acw (Pg.of Try.prog) := AcS AhH Ah2
theorem Aig : Ab6 (Pg.of Try.prog) := AcQ Ahm AiV
theorem Ah5 : AfX (Pg.of Try.prog) := Aio Ag5
theorem Agh : AeQ (Pg.of Try.prog) := Ah7 AgD Ah5
theorem AhZ : AfT (Pg.of Try.prog) := Aik Ag4 Aig Agh
theorem Aix : AgM (Pg.of Try.prog) := AiZ Agc AeL AeD AeE AjI AhZ Agh
theorem Aiy : AgN (Pg.of Try.prog) := Ai0 AfI
theorem Af1 : Ae7 (Pg.of Try.prog) := AiI Agd Aiy
theorem Aht : Af4 (Pg.of Try.prog) := Ai3 Ag7
theorem AiB : AgQ (Pg.of Try.prog) := Ai4 Age
theorem AhM : AgL (Pg.of Try.prog) := AjW AfB AiB
theorem Agg : AeP (Pg.of Try.prog) := Ah6 AeM
theorem AiU : AhA (Pg.of Try.prog) := AjK Afr
theorem Ah0 : AgH (Pg.of Try.prog) := AjL Afs AhM
theorem Ah4 : AgI (Pg.of Try.prog) := AjM Aho Aht AhM Agg AiU Ah0
theorem AiT : Ahz (Pg.of Try.prog) := AjJ Ahn Af1 Ah4
theorem Aih : Agm (Pg.of Try.prog) := AiJ Ahh
theorem AiD : AgS (Pg.of Try.prog) := Ai6 Ahj
theorem Ah3 : AfW (Pg.of Try.prog) := Ain AgC
theorem AiF : AgU (Pg.of Try.prog) := Ai8 Ahl
theorem AjH : Aic (Pg.of Try.prog) := AjY AhW
theorem AiE : AgT (Pg.of Try.prog) := Ai7 Ahk AiD Ah3 AiF AjH
theorem Aiz : AgO (Pg.of Try.prog) := Ai1 Ahi AiE
theorem We : Hq (Pg.of Try.prog) := AaQ Tb
theorem AiW : AhB (Pg.of Try.prog) := AjN AhF We
theorem AjG : Aib (Pg.of Try.prog) := AjX AhI Af1 Ah4
theorem AiC : AgR (Pg.of Try.prog) := Ai5 Ag6 Af1 Aht AhM Agg Ah0
theorem AiA : AgP (Pg.of Try.prog) := Ai2 AhV
theorem Ah1 : AfU (Pg.of Try.prog) := Ail Ahg AiW AjG AiC AiA
theorem Aas (x : DP AcZ.ps) (gx : (tyP AcZ.ps).Good x) : Go.VS.Fn (Pg.of Try.prog) "mergelens/mergelenslaw06.SearchPatterns" AcZ x fun (d : Bool) _ => d = true := Agi Afg T4 P8 Aii Wd Aix AiT Aih Aiz Ah1 x

theorem own : ownKnob Try.prog.godebug = none := by kernel_rfl
theorem Aay : (O7.all fun e => !(Try.prog.globalNamed e.1).isSome) = true := by kernel_rfl
theorem laidOut : laidOutB Try.prog = true := by kernel_rfl
theorem Yh : La Try.prog Try.f9.params.toList AcZ.ps = true := by kernel_rfl
theorem readable : Try.f9.params.toList.all (fun t => Try.prog.readableRec t && decide (t < Try.prog.types.size)) = true := by kernel_rfl

set_option maxRecDepth 100000 in
theorem lifted (os : Os) (started : os.Started) (H : Type) (enc : TypeId × Value → H) :
  ReturnsInHanded {} Try.checked os 9 .any (Rows.searchPatternsSpec.pre6 enc Try.prog Try.f9 Rows.searchPatternsRow.domain false) (Rows.searchPatternsSpec.post enc Try.prog Try.f9 false true false false) := by
 refine Qf (C := Try.checked) own started (by kernel_rfl) Try.func9
  (ChangeSpec.witness6 (enc := enc) (C := Try.checked) false ⟨#[], #[.slice none 0 0, .int .i64 0, .int .i64 0], []⟩ 8 (by kernel_rfl) (by kernel_rfl) (by kernel_rfl) (by kernel_rfl)) ?_
 intro W base args ds gs before hshape hval hW hc hsz hlast
 exact RZ (P := Try.prog) (fun x gx => Aas x gx) Try.func9 rfl Yh laidOut readable rfl Try.underlying4 rfl (fun ds hds => by
  match ds, hds with
  | [d1, d2, d3], _ => rfl) W (Ih.shaped Aay (g := 0) (t := 3) (by kernel_rfl) hshape (of_decide_eq_true (by kernel_rfl)) (by kernel_rfl) (by kernel_rfl) (by kernel_rfl) Try.underlying3) base args ds gs before hval hW hc hsz

theorem proved : Rows.SearchPatternsSaid :=
 OpenClaim.holds_of_wide 9 Try.f9 rfl rfl rfl rfl rfl rfl rfl ⟨rfl, rfl, rfl, rfl, rfl⟩ rfl rfl rfl rfl rfl (by kernel_rfl) Try.func9 (by kernel_rfl)
  (of_decide_eq_true (by kernel_rfl)) (by unfold Func.isWrapper; first | (rw [if_pos (by decide +kernel)]; kernel_rfl) | (rw [if_neg (by decide +kernel)]; exact ⟨rfl, rfl⟩))
  (fun os started H enc henc => lifted os started H enc)
#print axioms proved
end Go.Proofs.Ytbandpkgjepklaa.searchPatterns
