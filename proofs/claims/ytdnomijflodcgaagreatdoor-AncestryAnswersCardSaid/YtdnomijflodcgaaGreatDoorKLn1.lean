/- The program has these functions. -/
import Derived.Test.YtdnomijflodcgaaGreatDoorKGf0
import Derived.Test.YtdnomijflodcgaaGreatDoorKGf1
import Derived.Test.YtdnomijflodcgaaGreatDoorKGf2
import Derived.Test.YtdnomijflodcgaaGreatDoorProg
import Derived.KernelRfl
set_option linter.unusedVariables false
set_option linter.unusedSimpArgs false
namespace Go.VS
theorem Js {kp : Value → Prop} : Has ⟨Go.Proofs.Tryz.prog, kp⟩ C8 := Bb 221 Go.Proofs.Tryz.f221 (by kernel_rfl) (by kernel_rfl) (by kernel_rfl) (by decide) (by kernel_rfl) (by kernel_rfl)
theorem HR {kp : Value → Prop} : Has ⟨Go.Proofs.Tryz.prog, kp⟩ Cw := Bb 174 Go.Proofs.Tryz.f174 (by kernel_rfl) (by kernel_rfl) (by kernel_rfl) (by decide) (by kernel_rfl) (by kernel_rfl)
theorem VB {kp : Value → Prop} : Has ⟨Go.Proofs.Tryz.prog, kp⟩ HZ := Bb 130 Go.Proofs.Tryz.f130 (by kernel_rfl) (by kernel_rfl) (by kernel_rfl) (by decide) (by kernel_rfl) (by kernel_rfl)
theorem CT {kp : Value → Prop} : Has ⟨Go.Proofs.Tryz.prog, kp⟩ AN := Bb 175 Go.Proofs.Tryz.f175 (by kernel_rfl) (by kernel_rfl) (by kernel_rfl) (by decide) (by kernel_rfl) (by kernel_rfl)
theorem Pl {kp : Value → Prop} : Has ⟨Go.Proofs.Tryz.prog, kp⟩ Fa := Bb 173 Go.Proofs.Tryz.f173 (by kernel_rfl) (by kernel_rfl) (by kernel_rfl) (by decide) (by kernel_rfl) (by kernel_rfl)
theorem CA {kp : Value → Prop} : Has ⟨Go.Proofs.Tryz.prog, kp⟩ AK := Bb 127 Go.Proofs.Tryz.f127 (by kernel_rfl) (by kernel_rfl) (by kernel_rfl) (by decide) (by kernel_rfl) (by kernel_rfl)
theorem RO {kp : Value → Prop} : Has ⟨Go.Proofs.Tryz.prog, kp⟩ Gg := Bb 124 Go.Proofs.Tryz.f124 (by kernel_rfl) (by kernel_rfl) (by kernel_rfl) (by decide) (by kernel_rfl) (by kernel_rfl)
theorem C7 {kp : Value → Prop} : Has ⟨Go.Proofs.Tryz.prog, kp⟩ AW := Bb 175 Go.Proofs.Tryz.f175 (by kernel_rfl) (by kernel_rfl) (by kernel_rfl) (by decide) (by kernel_rfl) (by kernel_rfl)
theorem RN {kp : Value → Prop} : Has ⟨Go.Proofs.Tryz.prog, kp⟩ Gf := Bb 128 Go.Proofs.Tryz.f128 (by kernel_rfl) (by kernel_rfl) (by kernel_rfl) (by decide) (by kernel_rfl) (by kernel_rfl)
theorem CQ {kp : Value → Prop} : Has ⟨Go.Proofs.Tryz.prog, kp⟩ AL := Bb 127 Go.Proofs.Tryz.f127 (by kernel_rfl) (by kernel_rfl) (by kernel_rfl) (by decide) (by kernel_rfl) (by kernel_rfl)
theorem RP {kp : Value → Prop} : Has ⟨Go.Proofs.Tryz.prog, kp⟩ Gh := Bb 125 Go.Proofs.Tryz.f125 (by kernel_rfl) (by kernel_rfl) (by kernel_rfl) (by decide) (by kernel_rfl) (by kernel_rfl)
theorem Vy {kp : Value → Prop} : Has ⟨Go.Proofs.Tryz.prog, kp⟩ HW := Bb 83 Go.Proofs.Tryz.f83 (by kernel_rfl) (by kernel_rfl) (by kernel_rfl) (by decide) (by kernel_rfl) (by kernel_rfl)
theorem RU {kp : Value → Prop} : Has ⟨Go.Proofs.Tryz.prog, kp⟩ Gm := Bb 86 Go.Proofs.Tryz.f86 (by kernel_rfl) (by kernel_rfl) (by kernel_rfl) (by decide) (by kernel_rfl) (by kernel_rfl)
theorem XK {kp : Value → Prop} : Has ⟨Go.Proofs.Tryz.prog, kp⟩ Je := Bb 122 Go.Proofs.Tryz.f122 (by kernel_rfl) (by kernel_rfl) (by kernel_rfl) (by decide) (by kernel_rfl) (by kernel_rfl)
theorem XI {kp : Value → Prop} : Has ⟨Go.Proofs.Tryz.prog, kp⟩ Jc := Bb 81 Go.Proofs.Tryz.f81 (by kernel_rfl) (by kernel_rfl) (by kernel_rfl) (by decide) (by kernel_rfl) (by kernel_rfl)
theorem Vz {kp : Value → Prop} : Has ⟨Go.Proofs.Tryz.prog, kp⟩ HX := Bb 34 Go.Proofs.Tryz.f34 (by kernel_rfl) (by kernel_rfl) (by kernel_rfl) (by decide) (by kernel_rfl) (by kernel_rfl)
theorem XL {kp : Value → Prop} : Has ⟨Go.Proofs.Tryz.prog, kp⟩ Jf := Bb 85 Go.Proofs.Tryz.f85 (by kernel_rfl) (by kernel_rfl) (by kernel_rfl) (by decide) (by kernel_rfl) (by kernel_rfl)
theorem T5 {kp : Value → Prop} : Has ⟨Go.Proofs.Tryz.prog, kp⟩ GS := Bb 40 Go.Proofs.Tryz.f40 (by kernel_rfl) (by kernel_rfl) (by kernel_rfl) (by decide) (by kernel_rfl) (by kernel_rfl)
end Go.VS
