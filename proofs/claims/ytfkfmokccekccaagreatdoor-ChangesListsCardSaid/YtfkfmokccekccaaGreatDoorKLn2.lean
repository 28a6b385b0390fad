/- The program has these functions. -/
import Derived.Test.YtfkfmokccekccaaGreatDoorKGf0
import Derived.Test.YtfkfmokccekccaaGreatDoorKGf1
import Derived.Test.YtfkfmokccekccaaGreatDoorProg
import Derived.KernelRfl
set_option linter.unusedVariables false
set_option linter.unusedSimpArgs false
namespace Go.VS
theorem Qe{kp:Value→Prop}:Has ⟨Go.Proofs.Tryz.prog,kp⟩ Fs:=A1 47 Go.Proofs.Tryz.f47 (by kernel_rfl) (by kernel_rfl) (by kernel_rfl) (by decide) (by kernel_rfl) (by kernel_rfl)
theorem AcQ{kp:Value→Prop}:Has ⟨Go.Proofs.Tryz.prog,kp⟩ Nw:=A1 67 Go.Proofs.Tryz.f67 (by kernel_rfl) (by kernel_rfl) (by kernel_rfl) (by decide) (by kernel_rfl) (by kernel_rfl)
theorem N3{kp:Value→Prop}:Has ⟨Go.Proofs.Tryz.prog,kp⟩ EM:=A1 58 Go.Proofs.Tryz.f58 (by kernel_rfl) (by kernel_rfl) (by kernel_rfl) (by decide) (by kernel_rfl) (by kernel_rfl)
theorem Vc{kp:Value→Prop}:Has ⟨Go.Proofs.Tryz.prog,kp⟩ Hd:=A1 48 Go.Proofs.Tryz.f48 (by kernel_rfl) (by kernel_rfl) (by kernel_rfl) (by decide) (by kernel_rfl) (by kernel_rfl)
theorem KL{kp:Value→Prop}:Has ⟨Go.Proofs.Tryz.prog,kp⟩ Ev:=A1 14 Go.Proofs.Tryz.f14 (by kernel_rfl) (by kernel_rfl) (by kernel_rfl) (by decide) (by kernel_rfl) (by kernel_rfl)
theorem Ll{kp:Value→Prop}:Has ⟨Go.Proofs.Tryz.prog,kp⟩ ET:=A1 18 Go.Proofs.Tryz.f18 (by kernel_rfl) (by kernel_rfl) (by kernel_rfl) (by decide) (by kernel_rfl) (by kernel_rfl)
theorem YP{kp:Value→Prop}:Has ⟨Go.Proofs.Tryz.prog,kp⟩ JO:=A1 33 Go.Proofs.Tryz.f33 (by kernel_rfl) (by kernel_rfl) (by kernel_rfl) (by decide) (by kernel_rfl) (by kernel_rfl)
theorem Vg{kp:Value→Prop}:Has ⟨Go.Proofs.Tryz.prog,kp⟩ Hh:=A1 45 Go.Proofs.Tryz.f45 (by kernel_rfl) (by kernel_rfl) (by kernel_rfl) (by decide) (by kernel_rfl) (by kernel_rfl)
theorem Vf{kp:Value→Prop}:Has ⟨Go.Proofs.Tryz.prog,kp⟩ Hg:=A1 46 Go.Proofs.Tryz.f46 (by kernel_rfl) (by kernel_rfl) (by kernel_rfl) (by decide) (by kernel_rfl) (by kernel_rfl)
theorem WR{kp:Value→Prop}:Has ⟨Go.Proofs.Tryz.prog,kp⟩ Iw:=A1 13 Go.Proofs.Tryz.f13 (by kernel_rfl) (by kernel_rfl) (by kernel_rfl) (by decide) (by kernel_rfl) (by kernel_rfl)
theorem Tn{kp:Value→Prop}:Has ⟨Go.Proofs.Tryz.prog,kp⟩ GF:=A1 49 Go.Proofs.Tryz.f49 (by kernel_rfl) (by kernel_rfl) (by kernel_rfl) (by decide) (by kernel_rfl) (by kernel_rfl)
theorem Tp{kp:Value→Prop}:Has ⟨Go.Proofs.Tryz.prog,kp⟩ GH:=A1 50 Go.Proofs.Tryz.f50 (by kernel_rfl) (by kernel_rfl) (by kernel_rfl) (by decide) (by kernel_rfl) (by kernel_rfl)
theorem To{kp:Value→Prop}:Has ⟨Go.Proofs.Tryz.prog,kp⟩ GG:=A1 15 Go.Proofs.Tryz.f15 (by kernel_rfl) (by kernel_rfl) (by kernel_rfl) (by decide) (by kernel_rfl) (by kernel_rfl)
theorem Vi{kp:Value→Prop}:Has ⟨Go.Proofs.Tryz.prog,kp⟩ Hj:=A1 19 Go.Proofs.Tryz.f19 (by kernel_rfl) (by kernel_rfl) (by kernel_rfl) (by decide) (by kernel_rfl) (by kernel_rfl)
theorem YQ{kp:Value→Prop}:Has ⟨Go.Proofs.Tryz.prog,kp⟩ JP:=A1 57 Go.Proofs.Tryz.f57 (by kernel_rfl) (by kernel_rfl) (by kernel_rfl) (by decide) (by kernel_rfl) (by kernel_rfl)
theorem M7{kp:Value→Prop}:Has ⟨Go.Proofs.Tryz.prog,kp⟩ Ej:=A1 17 Go.Proofs.Tryz.f17 (by kernel_rfl) (by kernel_rfl) (by kernel_rfl) (by decide) (by kernel_rfl) (by kernel_rfl)
theorem Tg{kp:Value→Prop}:Has ⟨Go.Proofs.Tryz.prog,kp⟩ Gx:=A1 12 Go.Proofs.Tryz.f12 (by kernel_rfl) (by kernel_rfl) (by kernel_rfl) (by decide) (by kernel_rfl) (by kernel_rfl)
theorem Tf{kp:Value→Prop}:Has ⟨Go.Proofs.Tryz.prog,kp⟩ Gw:=A1 21 Go.Proofs.Tryz.f21 (by kernel_rfl) (by kernel_rfl) (by kernel_rfl) (by decide) (by kernel_rfl) (by kernel_rfl)
theorem Lm{kp:Value→Prop}:Has ⟨Go.Proofs.Tryz.prog,kp⟩ DN:=A1 4 Go.Proofs.Tryz.f4 (by kernel_rfl) (by kernel_rfl) (by kernel_rfl) (by decide) (by kernel_rfl) (by kernel_rfl)
end Go.VS
