/- The program has these functions. -/
import Derived.Test.YtfkfmokccekccaaDoorKGf0
import Derived.Test.YtfkfmokccekccaaDoorKGf1
import Derived.Test.YtfkfmokccekccaaDoorProg
import Derived.KernelRfl
set_option linter.unusedVariables false
set_option linter.unusedSimpArgs false
namespace Go.VS
theorem AdH{kp:Value→Prop}:Has ⟨Go.Proofs.Tryd.prog,kp⟩ AbU:=BG 95 Go.Proofs.Tryd.f95 (by kernel_rfl) (by kernel_rfl) (by kernel_rfl) (by decide) (by kernel_rfl) (by kernel_rfl)
theorem Abv{kp:Value→Prop}:Has ⟨Go.Proofs.Tryd.prog,kp⟩ Aa7:=BG 121 Go.Proofs.Tryd.f121 (by kernel_rfl) (by kernel_rfl) (by kernel_rfl) (by decide) (by kernel_rfl) (by kernel_rfl)
theorem Abw{kp:Value→Prop}:Has ⟨Go.Proofs.Tryd.prog,kp⟩ Aa8:=BG 121 Go.Proofs.Tryd.f121 (by kernel_rfl) (by kernel_rfl) (by kernel_rfl) (by decide) (by kernel_rfl) (by kernel_rfl)
theorem Abr{kp:Value→Prop}:Has ⟨Go.Proofs.Tryd.prog,kp⟩ Aa5:=BG 91 Go.Proofs.Tryd.f91 (by kernel_rfl) (by kernel_rfl) (by kernel_rfl) (by decide) (by kernel_rfl) (by kernel_rfl)
theorem Abs{kp:Value→Prop}:Has ⟨Go.Proofs.Tryd.prog,kp⟩ Aa6:=BG 91 Go.Proofs.Tryd.f91 (by kernel_rfl) (by kernel_rfl) (by kernel_rfl) (by decide) (by kernel_rfl) (by kernel_rfl)
theorem Aet{kp:Value→Prop}:Has ⟨Go.Proofs.Tryd.prog,kp⟩ Aca:=BG 59 Go.Proofs.Tryd.f59 (by kernel_rfl) (by kernel_rfl) (by kernel_rfl) (by decide) (by kernel_rfl) (by kernel_rfl)
theorem AeF{kp:Value→Prop}:Has ⟨Go.Proofs.Tryd.prog,kp⟩ Ack:=BG 37 Go.Proofs.Tryd.f37 (by kernel_rfl) (by kernel_rfl) (by kernel_rfl) (by decide) (by kernel_rfl) (by kernel_rfl)
theorem Aes{kp:Value→Prop}:Has ⟨Go.Proofs.Tryd.prog,kp⟩ Ab9:=BG 8 Go.Proofs.Tryd.f8 (by kernel_rfl) (by kernel_rfl) (by kernel_rfl) (by decide) (by kernel_rfl) (by kernel_rfl)
end Go.VS
