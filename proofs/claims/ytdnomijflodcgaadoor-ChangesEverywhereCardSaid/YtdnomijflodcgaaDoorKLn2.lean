/- The program has these functions. -/
import Derived.Test.YtdnomijflodcgaaDoorKGf0
import Derived.Test.YtdnomijflodcgaaDoorKGf1
import Derived.Test.YtdnomijflodcgaaDoorProg
import Derived.KernelRfl
set_option linter.unusedVariables false
set_option linter.unusedSimpArgs false
namespace Go.VS
theorem Ss {kp : Value → Prop} : Has ⟨Go.Proofs.Tryd.prog, kp⟩ Gm := Br 37 Go.Proofs.Tryd.f37 (by kernel_rfl) (by kernel_rfl) (by kernel_rfl) (by decide) (by kernel_rfl) (by kernel_rfl)
theorem Oo {kp : Value → Prop} : Has ⟨Go.Proofs.Tryd.prog, kp⟩ ET := Br 38 Go.Proofs.Tryd.f38 (by kernel_rfl) (by kernel_rfl) (by kernel_rfl) (by decide) (by kernel_rfl) (by kernel_rfl)
theorem ZQ {kp : Value → Prop} : Has ⟨Go.Proofs.Tryd.prog, kp⟩ LK := Br 62 Go.Proofs.Tryd.f62 (by kernel_rfl) (by kernel_rfl) (by kernel_rfl) (by decide) (by kernel_rfl) (by kernel_rfl)
theorem Mi {kp : Value → Prop} : Has ⟨Go.Proofs.Tryd.prog, kp⟩ Eh := Br 40 Go.Proofs.Tryd.f40 (by kernel_rfl) (by kernel_rfl) (by kernel_rfl) (by decide) (by kernel_rfl) (by kernel_rfl)
theorem Sq {kp : Value → Prop} : Has ⟨Go.Proofs.Tryd.prog, kp⟩ Gk := Br 39 Go.Proofs.Tryd.f39 (by kernel_rfl) (by kernel_rfl) (by kernel_rfl) (by decide) (by kernel_rfl) (by kernel_rfl)
theorem Om {kp : Value → Prop} : Has ⟨Go.Proofs.Tryd.prog, kp⟩ ES := Br 14 Go.Proofs.Tryd.f14 (by kernel_rfl) (by kernel_rfl) (by kernel_rfl) (by decide) (by kernel_rfl) (by kernel_rfl)
theorem Px {kp : Value → Prop} : Has ⟨Go.Proofs.Tryd.prog, kp⟩ E6 := Br 15 Go.Proofs.Tryd.f15 (by kernel_rfl) (by kernel_rfl) (by kernel_rfl) (by decide) (by kernel_rfl) (by kernel_rfl)
theorem V1 {kp : Value → Prop} : Has ⟨Go.Proofs.Tryd.prog, kp⟩ Ir := Br 29 Go.Proofs.Tryd.f29 (by kernel_rfl) (by kernel_rfl) (by kernel_rfl) (by decide) (by kernel_rfl) (by kernel_rfl)
theorem Sv {kp : Value → Prop} : Has ⟨Go.Proofs.Tryd.prog, kp⟩ Gp := Br 35 Go.Proofs.Tryd.f35 (by kernel_rfl) (by kernel_rfl) (by kernel_rfl) (by decide) (by kernel_rfl) (by kernel_rfl)
theorem Su {kp : Value → Prop} : Has ⟨Go.Proofs.Tryd.prog, kp⟩ Gn := Br 36 Go.Proofs.Tryd.f36 (by kernel_rfl) (by kernel_rfl) (by kernel_rfl) (by decide) (by kernel_rfl) (by kernel_rfl)
theorem Ue {kp : Value → Prop} : Has ⟨Go.Proofs.Tryd.prog, kp⟩ Hu := Br 11 Go.Proofs.Tryd.f11 (by kernel_rfl) (by kernel_rfl) (by kernel_rfl) (by decide) (by kernel_rfl) (by kernel_rfl)
theorem QH {kp : Value → Prop} : Has ⟨Go.Proofs.Tryd.prog, kp⟩ FR := Br 12 Go.Proofs.Tryd.f12 (by kernel_rfl) (by kernel_rfl) (by kernel_rfl) (by decide) (by kernel_rfl) (by kernel_rfl)
theorem Hm {kp : Value → Prop} : Has ⟨Go.Proofs.Tryd.prog, kp⟩ Cx := Br 5 Go.Proofs.Tryd.f5 (by kernel_rfl) (by kernel_rfl) (by kernel_rfl) (by decide) (by kernel_rfl) (by kernel_rfl)
end Go.VS
