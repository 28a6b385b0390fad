/- The program has these functions. -/
import Derived.Test.YtfkfmokccekccaaGreatDoorKGf0
import Derived.Test.YtfkfmokccekccaaGreatDoorKGf1
import Derived.Test.YtfkfmokccekccaaGreatDoorProg
import Derived.KernelRfl
set_option linter.unusedVariables false
set_option linter.unusedSimpArgs false
namespace Go.VS
theorem Agb{kp:Value→Prop}:Has ⟨Go.Proofs.Tryz.prog,kp⟩ NZ:=Ay 9 Go.Proofs.Tryz.f9 (by kernel_rfl) (by kernel_rfl) (by kernel_rfl) (by decide) (by kernel_rfl) (by kernel_rfl)
theorem QH{kp:Value→Prop}:Has ⟨Go.Proofs.Tryz.prog,kp⟩ EB:=Ay 121 Go.Proofs.Tryz.f121 (by kernel_rfl) (by kernel_rfl) (by kernel_rfl) (by decide) (by kernel_rfl) (by kernel_rfl)
theorem Aik{kp:Value→Prop}:Has ⟨Go.Proofs.Tryz.prog,kp⟩ P5:=Ay 32 Go.Proofs.Tryz.f32 (by kernel_rfl) (by kernel_rfl) (by kernel_rfl) (by decide) (by kernel_rfl) (by kernel_rfl)
theorem WQ{kp:Value→Prop}:Has ⟨Go.Proofs.Tryz.prog,kp⟩ Hd:=Ay 69 Go.Proofs.Tryz.f69 (by kernel_rfl) (by kernel_rfl) (by kernel_rfl) (by decide) (by kernel_rfl) (by kernel_rfl)
theorem Ady{kp:Value→Prop}:Has ⟨Go.Proofs.Tryz.prog,kp⟩ LM:=Ay 68 Go.Proofs.Tryz.f68 (by kernel_rfl) (by kernel_rfl) (by kernel_rfl) (by decide) (by kernel_rfl) (by kernel_rfl)
theorem Zq{kp:Value→Prop}:Has ⟨Go.Proofs.Tryz.prog,kp⟩ Ij:=Ay 166 Go.Proofs.Tryz.f166 (by kernel_rfl) (by kernel_rfl) (by kernel_rfl) (by decide) (by kernel_rfl) (by kernel_rfl)
theorem Zp{kp:Value→Prop}:Has ⟨Go.Proofs.Tryz.prog,kp⟩ Ii:=Ay 124 Go.Proofs.Tryz.f124 (by kernel_rfl) (by kernel_rfl) (by kernel_rfl) (by decide) (by kernel_rfl) (by kernel_rfl)
theorem Zr{kp:Value→Prop}:Has ⟨Go.Proofs.Tryz.prog,kp⟩ Ik:=Ay 82 Go.Proofs.Tryz.f82 (by kernel_rfl) (by kernel_rfl) (by kernel_rfl) (by decide) (by kernel_rfl) (by kernel_rfl)
theorem Vj{kp:Value→Prop}:Has ⟨Go.Proofs.Tryz.prog,kp⟩ F8:=Ay 148 Go.Proofs.Tryz.f148 (by kernel_rfl) (by kernel_rfl) (by kernel_rfl) (by decide) (by kernel_rfl) (by kernel_rfl)
theorem Vk{kp:Value→Prop}:Has ⟨Go.Proofs.Tryz.prog,kp⟩ F9:=Ay 151 Go.Proofs.Tryz.f151 (by kernel_rfl) (by kernel_rfl) (by kernel_rfl) (by decide) (by kernel_rfl) (by kernel_rfl)
theorem Ds{kp:Value→Prop}:Has ⟨Go.Proofs.Tryz.prog,kp⟩ A0:=Ay 184 Go.Proofs.Tryz.f184 (by kernel_rfl) (by kernel_rfl) (by kernel_rfl) (by decide) (by kernel_rfl) (by kernel_rfl)
theorem Dt{kp:Value→Prop}:Has ⟨Go.Proofs.Tryz.prog,kp⟩ A1:=Ay 184 Go.Proofs.Tryz.f184 (by kernel_rfl) (by kernel_rfl) (by kernel_rfl) (by decide) (by kernel_rfl) (by kernel_rfl)
end Go.VS
