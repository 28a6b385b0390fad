/- What the library's Itoa and the program's Quote give, as contracts. -/
import Derived.Test.YtcaandgkdmidkaaKKQ
import Derived.Test.YtcaandgkdmidkaaKSpFmt
import Derived.Test.YtcaandgkdmidkaaKSpQuo
import Derived.Lib.AppendIntMem
set_option linter.unusedVariables false
set_option linter.unusedSimpArgs false
namespace Go.Proofs.Try
open Go.Shelf Go.RowKit Go.VS
theorem VK (hEsc : Fz (Pg.of prog)) : Mb (Pg.of prog) := by
 intro s hs
 refine Fn.VB (t := .str) (u := .str) rfl rfl s (Av s) rfl fun f fn hf hn => ?_
 have hfi : f = 30 := Tm (by kernel_rfl) hf hn
 subst hfi
 have hfe := Option.some.inj (hf.symm.trans func30)
 subst hfe
 refine ⟨by kernel_rfl, by kernel_rfl, fun w hw => ?_⟩
 have h := Q2 hEsc ⟨s.toArray⟩ (by simpa [ByteArray.size] using hs) w hw
 exact h
end Go.Proofs.Try
