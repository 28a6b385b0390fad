/- The program has these functions. -/
import Derived.Test.YtfkfmokccekccaaGreatDoorKGf0
import Derived.Test.YtfkfmokccekccaaGreatDoorKGf1
import Derived.Test.YtfkfmokccekccaaGreatDoorProg
import Derived.KernelRfl
set_option linter.unusedVariables false
set_option linter.unusedSimpArgs false
namespace Go.VS
theorem Tm{kp:Value→Prop}:Has ⟨Go.Proofs.Tryz.prog,kp⟩ GD:=A1 127 Go.Proofs.Tryz.f127 (by kernel_rfl) (by kernel_rfl) (by kernel_rfl) (by decide) (by kernel_rfl) (by kernel_rfl)
theorem Vd{kp:Value→Prop}:Has ⟨Go.Proofs.Tryz.prog,kp⟩ He:=A1 104 Go.Proofs.Tryz.f104 (by kernel_rfl) (by kernel_rfl) (by kernel_rfl) (by decide) (by kernel_rfl) (by kernel_rfl)
theorem JZ{kp:Value→Prop}:Has ⟨Go.Proofs.Tryz.prog,kp⟩ Dj:=A1 183 Go.Proofs.Tryz.f183 (by kernel_rfl) (by kernel_rfl) (by kernel_rfl) (by decide) (by kernel_rfl) (by kernel_rfl)
theorem Io{kp:Value→Prop}:Has ⟨Go.Proofs.Tryz.prog,kp⟩ CN:=A1 145 Go.Proofs.Tryz.f145 (by kernel_rfl) (by kernel_rfl) (by kernel_rfl) (by decide) (by kernel_rfl) (by kernel_rfl)
theorem WT{kp:Value→Prop}:Has ⟨Go.Proofs.Tryz.prog,kp⟩ Iy:=A1 126 Go.Proofs.Tryz.f126 (by kernel_rfl) (by kernel_rfl) (by kernel_rfl) (by decide) (by kernel_rfl) (by kernel_rfl)
theorem C8{kp:Value→Prop}:Has ⟨Go.Proofs.Tryz.prog,kp⟩ AP:=A1 146 Go.Proofs.Tryz.f146 (by kernel_rfl) (by kernel_rfl) (by kernel_rfl) (by decide) (by kernel_rfl) (by kernel_rfl)
theorem Qf{kp:Value→Prop}:Has ⟨Go.Proofs.Tryz.prog,kp⟩ Ft:=A1 144 Go.Proofs.Tryz.f144 (by kernel_rfl) (by kernel_rfl) (by kernel_rfl) (by decide) (by kernel_rfl) (by kernel_rfl)
theorem CR{kp:Value→Prop}:Has ⟨Go.Proofs.Tryz.prog,kp⟩ AL:=A1 105 Go.Proofs.Tryz.f105 (by kernel_rfl) (by kernel_rfl) (by kernel_rfl) (by decide) (by kernel_rfl) (by kernel_rfl)
theorem Td{kp:Value→Prop}:Has ⟨Go.Proofs.Tryz.prog,kp⟩ Gu:=A1 102 Go.Proofs.Tryz.f102 (by kernel_rfl) (by kernel_rfl) (by kernel_rfl) (by decide) (by kernel_rfl) (by kernel_rfl)
theorem Di{kp:Value→Prop}:Has ⟨Go.Proofs.Tryz.prog,kp⟩ AY:=A1 146 Go.Proofs.Tryz.f146 (by kernel_rfl) (by kernel_rfl) (by kernel_rfl) (by decide) (by kernel_rfl) (by kernel_rfl)
theorem Tc{kp:Value→Prop}:Has ⟨Go.Proofs.Tryz.prog,kp⟩ Gt:=A1 106 Go.Proofs.Tryz.f106 (by kernel_rfl) (by kernel_rfl) (by kernel_rfl) (by decide) (by kernel_rfl) (by kernel_rfl)
theorem C5{kp:Value→Prop}:Has ⟨Go.Proofs.Tryz.prog,kp⟩ AO:=A1 105 Go.Proofs.Tryz.f105 (by kernel_rfl) (by kernel_rfl) (by kernel_rfl) (by decide) (by kernel_rfl) (by kernel_rfl)
theorem Te{kp:Value→Prop}:Has ⟨Go.Proofs.Tryz.prog,kp⟩ Gv:=A1 103 Go.Proofs.Tryz.f103 (by kernel_rfl) (by kernel_rfl) (by kernel_rfl) (by decide) (by kernel_rfl) (by kernel_rfl)
theorem WO{kp:Value→Prop}:Has ⟨Go.Proofs.Tryz.prog,kp⟩ Iu:=A1 66 Go.Proofs.Tryz.f66 (by kernel_rfl) (by kernel_rfl) (by kernel_rfl) (by decide) (by kernel_rfl) (by kernel_rfl)
theorem Tl{kp:Value→Prop}:Has ⟨Go.Proofs.Tryz.prog,kp⟩ GC:=A1 84 Go.Proofs.Tryz.f84 (by kernel_rfl) (by kernel_rfl) (by kernel_rfl) (by decide) (by kernel_rfl) (by kernel_rfl)
theorem RG{kp:Value→Prop}:Has ⟨Go.Proofs.Tryz.prog,kp⟩ FF:=A1 51 Go.Proofs.Tryz.f51 (by kernel_rfl) (by kernel_rfl) (by kernel_rfl) (by decide) (by kernel_rfl) (by kernel_rfl)
theorem YO{kp:Value→Prop}:Has ⟨Go.Proofs.Tryz.prog,kp⟩ JN:=A1 68 Go.Proofs.Tryz.f68 (by kernel_rfl) (by kernel_rfl) (by kernel_rfl) (by decide) (by kernel_rfl) (by kernel_rfl)
theorem YN{kp:Value→Prop}:Has ⟨Go.Proofs.Tryz.prog,kp⟩ JM:=A1 31 Go.Proofs.Tryz.f31 (by kernel_rfl) (by kernel_rfl) (by kernel_rfl) (by decide) (by kernel_rfl) (by kernel_rfl)
theorem WQ{kp:Value→Prop}:Has ⟨Go.Proofs.Tryz.prog,kp⟩ Iv:=A1 26 Go.Proofs.Tryz.f26 (by kernel_rfl) (by kernel_rfl) (by kernel_rfl) (by decide) (by kernel_rfl) (by kernel_rfl)
theorem Ve{kp:Value→Prop}:Has ⟨Go.Proofs.Tryz.prog,kp⟩ Hf:=A1 20 Go.Proofs.Tryz.f20 (by kernel_rfl) (by kernel_rfl) (by kernel_rfl) (by decide) (by kernel_rfl) (by kernel_rfl)
end Go.VS
