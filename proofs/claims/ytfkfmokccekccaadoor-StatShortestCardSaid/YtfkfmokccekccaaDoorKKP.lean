/- What the library's Itoa and the program's Quote give, as contracts. -/
import Derived.Test.YtfkfmokccekccaaDoorKKQ
import Derived.Test.YtfkfmokccekccaaDoorKSm0
import Derived.Lib.AppendIntMem
set_option linter.unusedVariables false
set_option linter.unusedSimpArgs false
namespace Go.Proofs.Tryd
open Go.Shelf Go.RowKit Go.VS
theorem Aah(hEsc:Dj (Pg.of prog)):V9 (Pg.of prog):=by
 intro s hs
 refine Fn.RE (t:=.str) (u:=.str) rfl rfl s (DV s) rfl fun f fn hf hn=>?_
 have hfi:f=49:=Fo (by kernel_rfl) hf hn
 subst hfi
 have hfe:=Option.some.inj (hf.symm.trans func49)
 subst hfe
 refine⟨by kernel_rfl,by kernel_rfl,fun w hw=>?_⟩
 have h:=Me hEsc ⟨s.toArray⟩ (by simpa[ByteArray.size]using hs) w hw
 exact h
end Go.Proofs.Tryd
