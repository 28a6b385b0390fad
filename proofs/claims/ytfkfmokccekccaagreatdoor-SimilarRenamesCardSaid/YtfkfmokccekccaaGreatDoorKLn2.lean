/- The program has these functions. -/
import Derived.Test.YtfkfmokccekccaaGreatDoorKGf0
import Derived.Test.YtfkfmokccekccaaGreatDoorKGf1
import Derived.Test.YtfkfmokccekccaaGreatDoorProg
import Derived.KernelRfl
set_option linter.unusedVariables false
set_option linter.unusedSimpArgs false
namespace Go.VS
theorem WR{kp:Value→Prop}:Has ⟨Go.Proofs.Tryz.prog,kp⟩ He:=Ay 80 Go.Proofs.Tryz.f80 (by kernel_rfl) (by kernel_rfl) (by kernel_rfl) (by decide) (by kernel_rfl) (by kernel_rfl)
theorem AqE{kp:Value→Prop}:Has ⟨Go.Proofs.Tryz.prog,kp⟩ AoI:=Ay 81 Go.Proofs.Tryz.f81 (by kernel_rfl) (by kernel_rfl) (by kernel_rfl) (by decide) (by kernel_rfl) (by kernel_rfl)
theorem Aqc{kp:Value→Prop}:Has ⟨Go.Proofs.Tryz.prog,kp⟩ AoE:=Ay 43 Go.Proofs.Tryz.f43 (by kernel_rfl) (by kernel_rfl) (by kernel_rfl) (by decide) (by kernel_rfl) (by kernel_rfl)
theorem Adx{kp:Value→Prop}:Has ⟨Go.Proofs.Tryz.prog,kp⟩ LL:=Ay 31 Go.Proofs.Tryz.f31 (by kernel_rfl) (by kernel_rfl) (by kernel_rfl) (by decide) (by kernel_rfl) (by kernel_rfl)
theorem Aqa{kp:Value→Prop}:Has ⟨Go.Proofs.Tryz.prog,kp⟩ AoC:=Ay 11 Go.Proofs.Tryz.f11 (by kernel_rfl) (by kernel_rfl) (by kernel_rfl) (by decide) (by kernel_rfl) (by kernel_rfl)
theorem Adz{kp:Value→Prop}:Has ⟨Go.Proofs.Tryz.prog,kp⟩ LN:=Ay 33 Go.Proofs.Tryz.f33 (by kernel_rfl) (by kernel_rfl) (by kernel_rfl) (by decide) (by kernel_rfl) (by kernel_rfl)
theorem ApK{kp:Value→Prop}:Has ⟨Go.Proofs.Tryz.prog,kp⟩ Aoy:=Ay 35 Go.Proofs.Tryz.f35 (by kernel_rfl) (by kernel_rfl) (by kernel_rfl) (by decide) (by kernel_rfl) (by kernel_rfl)
theorem Aqb{kp:Value→Prop}:Has ⟨Go.Proofs.Tryz.prog,kp⟩ AoD:=Ay 6 Go.Proofs.Tryz.f6 (by kernel_rfl) (by kernel_rfl) (by kernel_rfl) (by decide) (by kernel_rfl) (by kernel_rfl)
theorem AqF{kp:Value→Prop}:Has ⟨Go.Proofs.Tryz.prog,kp⟩ AoJ:=Ay 41 Go.Proofs.Tryz.f41 (by kernel_rfl) (by kernel_rfl) (by kernel_rfl) (by decide) (by kernel_rfl) (by kernel_rfl)
theorem ApJ{kp:Value→Prop}:Has ⟨Go.Proofs.Tryz.prog,kp⟩ Aox:=Ay 8 Go.Proofs.Tryz.f8 (by kernel_rfl) (by kernel_rfl) (by kernel_rfl) (by decide) (by kernel_rfl) (by kernel_rfl)
theorem AqD{kp:Value→Prop}:Has ⟨Go.Proofs.Tryz.prog,kp⟩ AoH:=Ay 10 Go.Proofs.Tryz.f10 (by kernel_rfl) (by kernel_rfl) (by kernel_rfl) (by decide) (by kernel_rfl) (by kernel_rfl)
theorem AoY{kp:Value→Prop}:Has ⟨Go.Proofs.Tryz.prog,kp⟩ Aoh:=Ay 3 Go.Proofs.Tryz.f3 (by kernel_rfl) (by kernel_rfl) (by kernel_rfl) (by decide) (by kernel_rfl) (by kernel_rfl)
end Go.VS
