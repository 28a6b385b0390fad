/- The program has these functions. -/
import Derived.Test.YtdnomijflodcgaaDoorKGf0
import Derived.Test.YtdnomijflodcgaaDoorKGf1
import Derived.Test.YtdnomijflodcgaaDoorProg
import Derived.KernelRfl
set_option linter.unusedVariables false
set_option linter.unusedSimpArgs false
namespace Go.VS
theorem V1 {kp : Value → Prop} : Has ⟨Go.Proofs.Tryd.prog, kp⟩ Ir := Br 29 Go.Proofs.Tryd.f29 (by kernel_rfl) (by kernel_rfl) (by kernel_rfl) (by decide) (by kernel_rfl) (by kernel_rfl)
theorem Sv {kp : Value → Prop} : Has ⟨Go.Proofs.Tryd.prog, kp⟩ Gp := Br 35 Go.Proofs.Tryd.f35 (by kernel_rfl) (by kernel_rfl) (by kernel_rfl) (by decide) (by kernel_rfl) (by kernel_rfl)
theorem Su {kp : Value → Prop} : Has ⟨Go.Proofs.Tryd.prog, kp⟩ Gn := Br 36 Go.Proofs.Tryd.f36 (by kernel_rfl) (by kernel_rfl) (by kernel_rfl) (by decide) (by kernel_rfl) (by kernel_rfl)
theorem Ue {kp : Value → Prop} : Has ⟨Go.Proofs.Tryd.prog, kp⟩ Hu := Br 11 Go.Proofs.Tryd.f11 (by kernel_rfl) (by kernel_rfl) (by kernel_rfl) (by decide) (by kernel_rfl) (by kernel_rfl)
theorem AeR {kp : Value → Prop} : Has ⟨Go.Proofs.Tryd.prog, kp⟩ Aer := Br 49 Go.Proofs.Tryd.f49 (by kernel_rfl) (by kernel_rfl) (by kernel_rfl) (by decide) (by kernel_rfl) (by kernel_rfl)
theorem Afa {kp : Value → Prop} : Has ⟨Go.Proofs.Tryd.prog, kp⟩ Aeu := Br 48 Go.Proofs.Tryd.f48 (by kernel_rfl) (by kernel_rfl) (by kernel_rfl) (by decide) (by kernel_rfl) (by kernel_rfl)
theorem ZQ {kp : Value → Prop} : Has ⟨Go.Proofs.Tryd.prog, kp⟩ LK := Br 62 Go.Proofs.Tryd.f62 (by kernel_rfl) (by kernel_rfl) (by kernel_rfl) (by decide) (by kernel_rfl) (by kernel_rfl)
theorem AhS {kp : Value → Prop} : Has ⟨Go.Proofs.Tryd.prog, kp⟩ Ahq := Br 25 Go.Proofs.Tryd.f25 (by kernel_rfl) (by kernel_rfl) (by kernel_rfl) (by decide) (by kernel_rfl) (by kernel_rfl)
theorem Aie {kp : Value → Prop} : Has ⟨Go.Proofs.Tryd.prog, kp⟩ Ahz := Br 26 Go.Proofs.Tryd.f26 (by kernel_rfl) (by kernel_rfl) (by kernel_rfl) (by decide) (by kernel_rfl) (by kernel_rfl)
theorem Af7 {kp : Value → Prop} : Has ⟨Go.Proofs.Tryd.prog, kp⟩ AeL := Br 21 Go.Proofs.Tryd.f21 (by kernel_rfl) (by kernel_rfl) (by kernel_rfl) (by decide) (by kernel_rfl) (by kernel_rfl)
theorem Afu {kp : Value → Prop} : Has ⟨Go.Proofs.Tryd.prog, kp⟩ Aez := Br 19 Go.Proofs.Tryd.f19 (by kernel_rfl) (by kernel_rfl) (by kernel_rfl) (by decide) (by kernel_rfl) (by kernel_rfl)
theorem AiK {kp : Value → Prop} : Has ⟨Go.Proofs.Tryd.prog, kp⟩ AiG := Br 9 Go.Proofs.Tryd.f9 (by kernel_rfl) (by kernel_rfl) (by kernel_rfl) (by decide) (by kernel_rfl) (by kernel_rfl)
end Go.VS
