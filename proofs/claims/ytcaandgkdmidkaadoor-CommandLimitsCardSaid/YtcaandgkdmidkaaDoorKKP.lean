/- What the library's Itoa and the program's Quote give, as contracts. -/
import Derived.Test.YtcaandgkdmidkaaDoorKKQ
import Derived.Test.YtcaandgkdmidkaaDoorKSpFmt
import Derived.Test.YtcaandgkdmidkaaDoorKSpQuo
import Derived.Lib.AppendIntMem
set_option linter.unusedVariables false
set_option linter.unusedSimpArgs false
namespace Go.Proofs.Tryd
open Go.Shelf Go.RowKit Go.VS
theorem Vh (hEsc : CX (Pg.of prog)) : LK (Pg.of prog) := by
 intro s hs
 refine Fn.Qa (t := .str) (u := .str) rfl rfl s (Ar s) rfl fun f fn hf hn => ?_
 have hfi : f = 42 := Ka (by kernel_rfl) hf hn
 subst hfi
 have hfe := Option.some.inj (hf.symm.trans func42)
 subst hfe
 refine ⟨by kernel_rfl, by kernel_rfl, fun w hw => ?_⟩
 have h := Ld hEsc ⟨s.toArray⟩ (by simpa [ByteArray.size] using hs) w hw
 exact h
end Go.Proofs.Tryd
