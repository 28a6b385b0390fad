/- The program has these functions. -/
import Derived.Test.YtbandpkgjepklaaKGf0
import Derived.Test.YtbandpkgjepklaaKGf1
import Derived.Test.YtbandpkgjepklaaKGf2
import Derived.Test.YtbandpkgjepklaaProg
import Derived.KernelRfl
set_option linter.unusedVariables false
set_option linter.unusedSimpArgs false
namespace Go.VS
theorem WN {kp : Value → Prop} : Has ⟨Go.Proofs.Try.prog, kp⟩ K8 := Ba 16 Go.Proofs.Try.f16 (by kernel_rfl) (by kernel_rfl) (by kernel_rfl) (by decide) (by kernel_rfl) (by kernel_rfl)
theorem Yq {kp : Value → Prop} : Has ⟨Go.Proofs.Try.prog, kp⟩ MA := Ba 31 Go.Proofs.Try.f31 (by kernel_rfl) (by kernel_rfl) (by kernel_rfl) (by decide) (by kernel_rfl) (by kernel_rfl)
theorem Tb {kp : Value → Prop} : Has ⟨Go.Proofs.Try.prog, kp⟩ Ig := Ba 22 Go.Proofs.Try.f22 (by kernel_rfl) (by kernel_rfl) (by kernel_rfl) (by decide) (by kernel_rfl) (by kernel_rfl)
theorem AhW {kp : Value → Prop} : Has ⟨Go.Proofs.Try.prog, kp⟩ AeO := Ba 71 Go.Proofs.Try.f71 (by kernel_rfl) (by kernel_rfl) (by kernel_rfl) (by decide) (by kernel_rfl) (by kernel_rfl)
theorem AfI {kp : Value → Prop} : Has ⟨Go.Proofs.Try.prog, kp⟩ AdJ := Ba 68 Go.Proofs.Try.f68 (by kernel_rfl) (by kernel_rfl) (by kernel_rfl) (by decide) (by kernel_rfl) (by kernel_rfl)
theorem Agd {kp : Value → Prop} : Has ⟨Go.Proofs.Try.prog, kp⟩ AdQ := Ba 49 Go.Proofs.Try.f49 (by kernel_rfl) (by kernel_rfl) (by kernel_rfl) (by decide) (by kernel_rfl) (by kernel_rfl)
theorem Age {kp : Value → Prop} : Has ⟨Go.Proofs.Try.prog, kp⟩ AdR := Ba 80 Go.Proofs.Try.f80 (by kernel_rfl) (by kernel_rfl) (by kernel_rfl) (by decide) (by kernel_rfl) (by kernel_rfl)
theorem AfB {kp : Value → Prop} : Has ⟨Go.Proofs.Try.prog, kp⟩ AdF := Ba 63 Go.Proofs.Try.f63 (by kernel_rfl) (by kernel_rfl) (by kernel_rfl) (by decide) (by kernel_rfl) (by kernel_rfl)
theorem Ag7 {kp : Value → Prop} : Has ⟨Go.Proofs.Try.prog, kp⟩ Ad8 := Ba 62 Go.Proofs.Try.f62 (by kernel_rfl) (by kernel_rfl) (by kernel_rfl) (by decide) (by kernel_rfl) (by kernel_rfl)
theorem AeM {kp : Value → Prop} : Has ⟨Go.Proofs.Try.prog, kp⟩ Adi := Ba 65 Go.Proofs.Try.f65 (by kernel_rfl) (by kernel_rfl) (by kernel_rfl) (by decide) (by kernel_rfl) (by kernel_rfl)
theorem Afr {kp : Value → Prop} : Has ⟨Go.Proofs.Try.prog, kp⟩ AdB := Ba 69 Go.Proofs.Try.f69 (by kernel_rfl) (by kernel_rfl) (by kernel_rfl) (by decide) (by kernel_rfl) (by kernel_rfl)
theorem Afs {kp : Value → Prop} : Has ⟨Go.Proofs.Try.prog, kp⟩ AdC := Ba 64 Go.Proofs.Try.f64 (by kernel_rfl) (by kernel_rfl) (by kernel_rfl) (by decide) (by kernel_rfl) (by kernel_rfl)
theorem Aho {kp : Value → Prop} : Has ⟨Go.Proofs.Try.prog, kp⟩ Aeo := Ba 50 Go.Proofs.Try.f50 (by kernel_rfl) (by kernel_rfl) (by kernel_rfl) (by decide) (by kernel_rfl) (by kernel_rfl)
theorem AhI {kp : Value → Prop} : Has ⟨Go.Proofs.Try.prog, kp⟩ Aev := Ba 43 Go.Proofs.Try.f43 (by kernel_rfl) (by kernel_rfl) (by kernel_rfl) (by decide) (by kernel_rfl) (by kernel_rfl)
theorem Ahn {kp : Value → Prop} : Has ⟨Go.Proofs.Try.prog, kp⟩ Aen := Ba 29 Go.Proofs.Try.f29 (by kernel_rfl) (by kernel_rfl) (by kernel_rfl) (by decide) (by kernel_rfl) (by kernel_rfl)
theorem Ag6 {kp : Value → Prop} : Has ⟨Go.Proofs.Try.prog, kp⟩ Ad7 := Ba 45 Go.Proofs.Try.f45 (by kernel_rfl) (by kernel_rfl) (by kernel_rfl) (by decide) (by kernel_rfl) (by kernel_rfl)
theorem AhV {kp : Value → Prop} : Has ⟨Go.Proofs.Try.prog, kp⟩ AeN := Ba 46 Go.Proofs.Try.f46 (by kernel_rfl) (by kernel_rfl) (by kernel_rfl) (by decide) (by kernel_rfl) (by kernel_rfl)
theorem AhG {kp : Value → Prop} : Has ⟨Go.Proofs.Try.prog, kp⟩ Aeu := Ba 27 Go.Proofs.Try.f27 (by kernel_rfl) (by kernel_rfl) (by kernel_rfl) (by decide) (by kernel_rfl) (by kernel_rfl)
theorem AhF {kp : Value → Prop} : Has ⟨Go.Proofs.Try.prog, kp⟩ Aet := Ba 44 Go.Proofs.Try.f44 (by kernel_rfl) (by kernel_rfl) (by kernel_rfl) (by decide) (by kernel_rfl) (by kernel_rfl)
theorem Ahg {kp : Value → Prop} : Has ⟨Go.Proofs.Try.prog, kp⟩ Aeh := Ba 26 Go.Proofs.Try.f26 (by kernel_rfl) (by kernel_rfl) (by kernel_rfl) (by decide) (by kernel_rfl) (by kernel_rfl)
theorem AgE {kp : Value → Prop} : Has ⟨Go.Proofs.Try.prog, kp⟩ AbM := Ba 60 Go.Proofs.Try.f60 (by kernel_rfl) (by kernel_rfl) (by kernel_rfl) (by decide) (by kernel_rfl) (by kernel_rfl)
theorem AhH {kp : Value → Prop} : Has ⟨Go.Proofs.Try.prog, kp⟩ AbU := Ba 40 Go.Proofs.Try.f40 (by kernel_rfl) (by kernel_rfl) (by kernel_rfl) (by decide) (by kernel_rfl) (by kernel_rfl)
end Go.VS
