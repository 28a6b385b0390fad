/- The program has these functions. -/
import Derived.Test.YtdnomijflodcgaaDoorKGf0
import Derived.Test.YtdnomijflodcgaaDoorKGf1
import Derived.Test.YtdnomijflodcgaaDoorProg
import Derived.KernelRfl
set_option linter.unusedVariables false
set_option linter.unusedSimpArgs false
namespace Go.VS
theorem Ah1 {kp : Value → Prop} : Has ⟨Go.Proofs.Tryd.prog, kp⟩ Ahs := Br 64 Go.Proofs.Tryd.f64 (by kernel_rfl) (by kernel_rfl) (by kernel_rfl) (by decide) (by kernel_rfl) (by kernel_rfl)
theorem QI {kp : Value → Prop} : Has ⟨Go.Proofs.Tryd.prog, kp⟩ FT := Br 32 Go.Proofs.Tryd.f32 (by kernel_rfl) (by kernel_rfl) (by kernel_rfl) (by decide) (by kernel_rfl) (by kernel_rfl)
theorem Sy {kp : Value → Prop} : Has ⟨Go.Proofs.Tryd.prog, kp⟩ Gs := Br 123 Go.Proofs.Tryd.f123 (by kernel_rfl) (by kernel_rfl) (by kernel_rfl) (by decide) (by kernel_rfl) (by kernel_rfl)
theorem Sx {kp : Value → Prop} : Has ⟨Go.Proofs.Tryd.prog, kp⟩ Gr := Br 83 Go.Proofs.Tryd.f83 (by kernel_rfl) (by kernel_rfl) (by kernel_rfl) (by decide) (by kernel_rfl) (by kernel_rfl)
theorem Py {kp : Value → Prop} : Has ⟨Go.Proofs.Tryd.prog, kp⟩ E8 := Br 134 Go.Proofs.Tryd.f134 (by kernel_rfl) (by kernel_rfl) (by kernel_rfl) (by decide) (by kernel_rfl) (by kernel_rfl)
theorem Pz {kp : Value → Prop} : Has ⟨Go.Proofs.Tryd.prog, kp⟩ E9 := Br 137 Go.Proofs.Tryd.f137 (by kernel_rfl) (by kernel_rfl) (by kernel_rfl) (by decide) (by kernel_rfl) (by kernel_rfl)
theorem Di {kp : Value → Prop} : Has ⟨Go.Proofs.Tryd.prog, kp⟩ A1 := Br 159 Go.Proofs.Tryd.f159 (by kernel_rfl) (by kernel_rfl) (by kernel_rfl) (by decide) (by kernel_rfl) (by kernel_rfl)
theorem Dj {kp : Value → Prop} : Has ⟨Go.Proofs.Tryd.prog, kp⟩ A2 := Br 159 Go.Proofs.Tryd.f159 (by kernel_rfl) (by kernel_rfl) (by kernel_rfl) (by decide) (by kernel_rfl) (by kernel_rfl)
theorem C3 {kp : Value → Prop} : Has ⟨Go.Proofs.Tryd.prog, kp⟩ AW := Br 133 Go.Proofs.Tryd.f133 (by kernel_rfl) (by kernel_rfl) (by kernel_rfl) (by decide) (by kernel_rfl) (by kernel_rfl)
theorem C4 {kp : Value → Prop} : Has ⟨Go.Proofs.Tryd.prog, kp⟩ AX := Br 133 Go.Proofs.Tryd.f133 (by kernel_rfl) (by kernel_rfl) (by kernel_rfl) (by decide) (by kernel_rfl) (by kernel_rfl)
theorem Mj {kp : Value → Prop} : Has ⟨Go.Proofs.Tryd.prog, kp⟩ E7 := Br 94 Go.Proofs.Tryd.f94 (by kernel_rfl) (by kernel_rfl) (by kernel_rfl) (by decide) (by kernel_rfl) (by kernel_rfl)
theorem Afv {kp : Value → Prop} : Has ⟨Go.Proofs.Tryd.prog, kp⟩ AeA := Br 22 Go.Proofs.Tryd.f22 (by kernel_rfl) (by kernel_rfl) (by kernel_rfl) (by decide) (by kernel_rfl) (by kernel_rfl)
theorem Aig {kp : Value → Prop} : Has ⟨Go.Proofs.Tryd.prog, kp⟩ AhB := Br 65 Go.Proofs.Tryd.f65 (by kernel_rfl) (by kernel_rfl) (by kernel_rfl) (by decide) (by kernel_rfl) (by kernel_rfl)
end Go.VS
