/- The program has these functions. -/
import Derived.Test.YtfkfmokccekccaaGreatDoorKGf0
import Derived.Test.YtfkfmokccekccaaGreatDoorKGf1
import Derived.Test.YtfkfmokccekccaaGreatDoorProg
import Derived.KernelRfl
set_option linter.unusedVariables false
set_option linter.unusedSimpArgs false
namespace Go.VS
theorem AaW{kp:Value→Prop}:Has ⟨Go.Proofs.Tryz.prog,kp⟩ LR:=A1 9 Go.Proofs.Tryz.f9 (by kernel_rfl) (by kernel_rfl) (by kernel_rfl) (by decide) (by kernel_rfl) (by kernel_rfl)
theorem N4{kp:Value→Prop}:Has ⟨Go.Proofs.Tryz.prog,kp⟩ EO:=A1 121 Go.Proofs.Tryz.f121 (by kernel_rfl) (by kernel_rfl) (by kernel_rfl) (by decide) (by kernel_rfl) (by kernel_rfl)
theorem AcR{kp:Value→Prop}:Has ⟨Go.Proofs.Tryz.prog,kp⟩ Nx:=A1 32 Go.Proofs.Tryz.f32 (by kernel_rfl) (by kernel_rfl) (by kernel_rfl) (by decide) (by kernel_rfl) (by kernel_rfl)
theorem Ti{kp:Value→Prop}:Has ⟨Go.Proofs.Tryz.prog,kp⟩ Gz:=A1 69 Go.Proofs.Tryz.f69 (by kernel_rfl) (by kernel_rfl) (by kernel_rfl) (by decide) (by kernel_rfl) (by kernel_rfl)
theorem Vk{kp:Value→Prop}:Has ⟨Go.Proofs.Tryz.prog,kp⟩ Hl:=A1 166 Go.Proofs.Tryz.f166 (by kernel_rfl) (by kernel_rfl) (by kernel_rfl) (by decide) (by kernel_rfl) (by kernel_rfl)
theorem Vj{kp:Value→Prop}:Has ⟨Go.Proofs.Tryz.prog,kp⟩ Hk:=A1 124 Go.Proofs.Tryz.f124 (by kernel_rfl) (by kernel_rfl) (by kernel_rfl) (by decide) (by kernel_rfl) (by kernel_rfl)
theorem RH{kp:Value→Prop}:Has ⟨Go.Proofs.Tryz.prog,kp⟩ FH:=A1 148 Go.Proofs.Tryz.f148 (by kernel_rfl) (by kernel_rfl) (by kernel_rfl) (by decide) (by kernel_rfl) (by kernel_rfl)
theorem RI{kp:Value→Prop}:Has ⟨Go.Proofs.Tryz.prog,kp⟩ FI:=A1 151 Go.Proofs.Tryz.f151 (by kernel_rfl) (by kernel_rfl) (by kernel_rfl) (by decide) (by kernel_rfl) (by kernel_rfl)
theorem DF{kp:Value→Prop}:Has ⟨Go.Proofs.Tryz.prog,kp⟩ AZ:=A1 184 Go.Proofs.Tryz.f184 (by kernel_rfl) (by kernel_rfl) (by kernel_rfl) (by decide) (by kernel_rfl) (by kernel_rfl)
theorem DG{kp:Value→Prop}:Has ⟨Go.Proofs.Tryz.prog,kp⟩ A0:=A1 184 Go.Proofs.Tryz.f184 (by kernel_rfl) (by kernel_rfl) (by kernel_rfl) (by decide) (by kernel_rfl) (by kernel_rfl)
theorem Dg{kp:Value→Prop}:Has ⟨Go.Proofs.Tryz.prog,kp⟩ AW:=A1 147 Go.Proofs.Tryz.f147 (by kernel_rfl) (by kernel_rfl) (by kernel_rfl) (by decide) (by kernel_rfl) (by kernel_rfl)
theorem Dh{kp:Value→Prop}:Has ⟨Go.Proofs.Tryz.prog,kp⟩ AX:=A1 147 Go.Proofs.Tryz.f147 (by kernel_rfl) (by kernel_rfl) (by kernel_rfl) (by decide) (by kernel_rfl) (by kernel_rfl)
theorem N5{kp:Value→Prop}:Has ⟨Go.Proofs.Tryz.prog,kp⟩ FG:=A1 107 Go.Proofs.Tryz.f107 (by kernel_rfl) (by kernel_rfl) (by kernel_rfl) (by decide) (by kernel_rfl) (by kernel_rfl)
theorem Tj{kp:Value→Prop}:Has ⟨Go.Proofs.Tryz.prog,kp⟩ GA:=A1 122 Go.Proofs.Tryz.f122 (by kernel_rfl) (by kernel_rfl) (by kernel_rfl) (by decide) (by kernel_rfl) (by kernel_rfl)
theorem Th{kp:Value→Prop}:Has ⟨Go.Proofs.Tryz.prog,kp⟩ Gy:=A1 123 Go.Proofs.Tryz.f123 (by kernel_rfl) (by kernel_rfl) (by kernel_rfl) (by decide) (by kernel_rfl) (by kernel_rfl)
theorem ML{kp:Value→Prop}:Has ⟨Go.Proofs.Tryz.prog,kp⟩ Fg:=A1 79 Go.Proofs.Tryz.f79 (by kernel_rfl) (by kernel_rfl) (by kernel_rfl) (by decide) (by kernel_rfl) (by kernel_rfl)
theorem WU{kp:Value→Prop}:Has ⟨Go.Proofs.Tryz.prog,kp⟩ Iz:=A1 59 Go.Proofs.Tryz.f59 (by kernel_rfl) (by kernel_rfl) (by kernel_rfl) (by decide) (by kernel_rfl) (by kernel_rfl)
theorem Vh{kp:Value→Prop}:Has ⟨Go.Proofs.Tryz.prog,kp⟩ Hi:=A1 42 Go.Proofs.Tryz.f42 (by kernel_rfl) (by kernel_rfl) (by kernel_rfl) (by decide) (by kernel_rfl) (by kernel_rfl)
theorem WV{kp:Value→Prop}:Has ⟨Go.Proofs.Tryz.prog,kp⟩ IA:=A1 70 Go.Proofs.Tryz.f70 (by kernel_rfl) (by kernel_rfl) (by kernel_rfl) (by decide) (by kernel_rfl) (by kernel_rfl)
theorem Tk{kp:Value→Prop}:Has ⟨Go.Proofs.Tryz.prog,kp⟩ GB:=A1 85 Go.Proofs.Tryz.f85 (by kernel_rfl) (by kernel_rfl) (by kernel_rfl) (by decide) (by kernel_rfl) (by kernel_rfl)
end Go.VS
