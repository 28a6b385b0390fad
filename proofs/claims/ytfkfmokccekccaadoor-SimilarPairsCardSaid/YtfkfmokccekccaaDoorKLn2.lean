/- The program has these functions. -/
import Derived.Test.YtfkfmokccekccaaDoorKGf0
import Derived.Test.YtfkfmokccekccaaDoorKGf1
import Derived.Test.YtfkfmokccekccaaDoorProg
import Derived.KernelRfl
set_option linter.unusedVariables false
set_option linter.unusedSimpArgs false
namespace Go.VS
theorem AeG{kp:Value→Prop}:Has ⟨Go.Proofs.Tryd.prog,kp⟩ Acl:=BG 33 Go.Proofs.Tryd.f33 (by kernel_rfl) (by kernel_rfl) (by kernel_rfl) (by decide) (by kernel_rfl) (by kernel_rfl)
theorem Te{kp:Value→Prop}:Has ⟨Go.Proofs.Tryd.prog,kp⟩ G0:=BG 13 Go.Proofs.Tryd.f13 (by kernel_rfl) (by kernel_rfl) (by kernel_rfl) (by decide) (by kernel_rfl) (by kernel_rfl)
theorem AdX{kp:Value→Prop}:Has ⟨Go.Proofs.Tryd.prog,kp⟩ Ab3:=BG 11 Go.Proofs.Tryd.f11 (by kernel_rfl) (by kernel_rfl) (by kernel_rfl) (by decide) (by kernel_rfl) (by kernel_rfl)
theorem Tg{kp:Value→Prop}:Has ⟨Go.Proofs.Tryd.prog,kp⟩ G2:=BG 14 Go.Proofs.Tryd.f14 (by kernel_rfl) (by kernel_rfl) (by kernel_rfl) (by decide) (by kernel_rfl) (by kernel_rfl)
theorem Adv{kp:Value→Prop}:Has ⟨Go.Proofs.Tryd.prog,kp⟩ AbQ:=BG 20 Go.Proofs.Tryd.f20 (by kernel_rfl) (by kernel_rfl) (by kernel_rfl) (by decide) (by kernel_rfl) (by kernel_rfl)
theorem AdY{kp:Value→Prop}:Has ⟨Go.Proofs.Tryd.prog,kp⟩ Ab4:=BG 5 Go.Proofs.Tryd.f5 (by kernel_rfl) (by kernel_rfl) (by kernel_rfl) (by decide) (by kernel_rfl) (by kernel_rfl)
theorem Aer{kp:Value→Prop}:Has ⟨Go.Proofs.Tryd.prog,kp⟩ Ab8:=BG 10 Go.Proofs.Tryd.f10 (by kernel_rfl) (by kernel_rfl) (by kernel_rfl) (by decide) (by kernel_rfl) (by kernel_rfl)
theorem AcR{kp:Value→Prop}:Has ⟨Go.Proofs.Tryd.prog,kp⟩ Aby:=BG 3 Go.Proofs.Tryd.f3 (by kernel_rfl) (by kernel_rfl) (by kernel_rfl) (by decide) (by kernel_rfl) (by kernel_rfl)
end Go.VS
