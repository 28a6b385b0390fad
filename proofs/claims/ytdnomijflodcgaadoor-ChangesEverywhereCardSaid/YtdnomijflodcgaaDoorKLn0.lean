/- The program has these functions. -/
import Derived.Test.YtdnomijflodcgaaDoorKGf0
import Derived.Test.YtdnomijflodcgaaDoorKGf1
import Derived.Test.YtdnomijflodcgaaDoorProg
import Derived.KernelRfl
set_option linter.unusedVariables false
set_option linter.unusedSimpArgs false
namespace Go.VS
theorem X8 {kp : Value → Prop} : Has ⟨Go.Proofs.Tryd.prog, kp⟩ Kh := Br 13 Go.Proofs.Tryd.f13 (by kernel_rfl) (by kernel_rfl) (by kernel_rfl) (by decide) (by kernel_rfl) (by kernel_rfl)
theorem ZR {kp : Value → Prop} : Has ⟨Go.Proofs.Tryd.prog, kp⟩ LL := Br 33 Go.Proofs.Tryd.f33 (by kernel_rfl) (by kernel_rfl) (by kernel_rfl) (by decide) (by kernel_rfl) (by kernel_rfl)
theorem QI {kp : Value → Prop} : Has ⟨Go.Proofs.Tryd.prog, kp⟩ FT := Br 32 Go.Proofs.Tryd.f32 (by kernel_rfl) (by kernel_rfl) (by kernel_rfl) (by decide) (by kernel_rfl) (by kernel_rfl)
theorem Sy {kp : Value → Prop} : Has ⟨Go.Proofs.Tryd.prog, kp⟩ Gs := Br 123 Go.Proofs.Tryd.f123 (by kernel_rfl) (by kernel_rfl) (by kernel_rfl) (by decide) (by kernel_rfl) (by kernel_rfl)
theorem Sx {kp : Value → Prop} : Has ⟨Go.Proofs.Tryd.prog, kp⟩ Gr := Br 83 Go.Proofs.Tryd.f83 (by kernel_rfl) (by kernel_rfl) (by kernel_rfl) (by decide) (by kernel_rfl) (by kernel_rfl)
theorem Py {kp : Value → Prop} : Has ⟨Go.Proofs.Tryd.prog, kp⟩ E8 := Br 134 Go.Proofs.Tryd.f134 (by kernel_rfl) (by kernel_rfl) (by kernel_rfl) (by decide) (by kernel_rfl) (by kernel_rfl)
theorem Pz {kp : Value → Prop} : Has ⟨Go.Proofs.Tryd.prog, kp⟩ E9 := Br 137 Go.Proofs.Tryd.f137 (by kernel_rfl) (by kernel_rfl) (by kernel_rfl) (by decide) (by kernel_rfl) (by kernel_rfl)
theorem Di {kp : Value → Prop} : Has ⟨Go.Proofs.Tryd.prog, kp⟩ A1 := Br 159 Go.Proofs.Tryd.f159 (by kernel_rfl) (by kernel_rfl) (by kernel_rfl) (by decide) (by kernel_rfl) (by kernel_rfl)
theorem Dj {kp : Value → Prop} : Has ⟨Go.Proofs.Tryd.prog, kp⟩ A2 := Br 159 Go.Proofs.Tryd.f159 (by kernel_rfl) (by kernel_rfl) (by kernel_rfl) (by decide) (by kernel_rfl) (by kernel_rfl)
theorem C3 {kp : Value → Prop} : Has ⟨Go.Proofs.Tryd.prog, kp⟩ AW := Br 133 Go.Proofs.Tryd.f133 (by kernel_rfl) (by kernel_rfl) (by kernel_rfl) (by decide) (by kernel_rfl) (by kernel_rfl)
theorem C4 {kp : Value → Prop} : Has ⟨Go.Proofs.Tryd.prog, kp⟩ AX := Br 133 Go.Proofs.Tryd.f133 (by kernel_rfl) (by kernel_rfl) (by kernel_rfl) (by decide) (by kernel_rfl) (by kernel_rfl)
theorem Mj {kp : Value → Prop} : Has ⟨Go.Proofs.Tryd.prog, kp⟩ E7 := Br 94 Go.Proofs.Tryd.f94 (by kernel_rfl) (by kernel_rfl) (by kernel_rfl) (by decide) (by kernel_rfl) (by kernel_rfl)
theorem Uf {kp : Value → Prop} : Has ⟨Go.Proofs.Tryd.prog, kp⟩ Hv := Br 41 Go.Proofs.Tryd.f41 (by kernel_rfl) (by kernel_rfl) (by kernel_rfl) (by decide) (by kernel_rfl) (by kernel_rfl)
theorem Sw {kp : Value → Prop} : Has ⟨Go.Proofs.Tryd.prog, kp⟩ Gq := Br 18 Go.Proofs.Tryd.f18 (by kernel_rfl) (by kernel_rfl) (by kernel_rfl) (by decide) (by kernel_rfl) (by kernel_rfl)
theorem Ug {kp : Value → Prop} : Has ⟨Go.Proofs.Tryd.prog, kp⟩ Hw := Br 95 Go.Proofs.Tryd.f95 (by kernel_rfl) (by kernel_rfl) (by kernel_rfl) (by decide) (by kernel_rfl) (by kernel_rfl)
end Go.VS
