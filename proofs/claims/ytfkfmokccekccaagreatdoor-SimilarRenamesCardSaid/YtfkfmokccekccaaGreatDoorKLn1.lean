/- The program has these functions. -/
import Derived.Test.YtfkfmokccekccaaGreatDoorKGf0
import Derived.Test.YtfkfmokccekccaaGreatDoorKGf1
import Derived.Test.YtfkfmokccekccaaGreatDoorProg
import Derived.KernelRfl
set_option linter.unusedVariables false
set_option linter.unusedSimpArgs false
namespace Go.VS
theorem C9{kp:Value→Prop}:Has ⟨Go.Proofs.Tryz.prog,kp⟩ AW:=Ay 147 Go.Proofs.Tryz.f147 (by kernel_rfl) (by kernel_rfl) (by kernel_rfl) (by decide) (by kernel_rfl) (by kernel_rfl)
theorem Da{kp:Value→Prop}:Has ⟨Go.Proofs.Tryz.prog,kp⟩ AX:=Ay 147 Go.Proofs.Tryz.f147 (by kernel_rfl) (by kernel_rfl) (by kernel_rfl) (by decide) (by kernel_rfl) (by kernel_rfl)
theorem QJ{kp:Value→Prop}:Has ⟨Go.Proofs.Tryz.prog,kp⟩ F7:=Ay 107 Go.Proofs.Tryz.f107 (by kernel_rfl) (by kernel_rfl) (by kernel_rfl) (by decide) (by kernel_rfl) (by kernel_rfl)
theorem WY{kp:Value→Prop}:Has ⟨Go.Proofs.Tryz.prog,kp⟩ Hk:=Ay 122 Go.Proofs.Tryz.f122 (by kernel_rfl) (by kernel_rfl) (by kernel_rfl) (by decide) (by kernel_rfl) (by kernel_rfl)
theorem WO{kp:Value→Prop}:Has ⟨Go.Proofs.Tryz.prog,kp⟩ Hc:=Ay 123 Go.Proofs.Tryz.f123 (by kernel_rfl) (by kernel_rfl) (by kernel_rfl) (by decide) (by kernel_rfl) (by kernel_rfl)
theorem O4{kp:Value→Prop}:Has ⟨Go.Proofs.Tryz.prog,kp⟩ Fc:=Ay 79 Go.Proofs.Tryz.f79 (by kernel_rfl) (by kernel_rfl) (by kernel_rfl) (by decide) (by kernel_rfl) (by kernel_rfl)
theorem Aa9{kp:Value→Prop}:Has ⟨Go.Proofs.Tryz.prog,kp⟩ JS:=Ay 59 Go.Proofs.Tryz.f59 (by kernel_rfl) (by kernel_rfl) (by kernel_rfl) (by decide) (by kernel_rfl) (by kernel_rfl)
theorem Zl{kp:Value→Prop}:Has ⟨Go.Proofs.Tryz.prog,kp⟩ Ic:=Ay 42 Go.Proofs.Tryz.f42 (by kernel_rfl) (by kernel_rfl) (by kernel_rfl) (by decide) (by kernel_rfl) (by kernel_rfl)
theorem Aba{kp:Value→Prop}:Has ⟨Go.Proofs.Tryz.prog,kp⟩ JT:=Ay 70 Go.Proofs.Tryz.f70 (by kernel_rfl) (by kernel_rfl) (by kernel_rfl) (by decide) (by kernel_rfl) (by kernel_rfl)
theorem WZ{kp:Value→Prop}:Has ⟨Go.Proofs.Tryz.prog,kp⟩ Hl:=Ay 85 Go.Proofs.Tryz.f85 (by kernel_rfl) (by kernel_rfl) (by kernel_rfl) (by decide) (by kernel_rfl) (by kernel_rfl)
theorem Vg{kp:Value→Prop}:Has ⟨Go.Proofs.Tryz.prog,kp⟩ F4:=Ay 51 Go.Proofs.Tryz.f51 (by kernel_rfl) (by kernel_rfl) (by kernel_rfl) (by decide) (by kernel_rfl) (by kernel_rfl)
theorem Zk{kp:Value→Prop}:Has ⟨Go.Proofs.Tryz.prog,kp⟩ Ib:=Ay 40 Go.Proofs.Tryz.f40 (by kernel_rfl) (by kernel_rfl) (by kernel_rfl) (by decide) (by kernel_rfl) (by kernel_rfl)
end Go.VS
