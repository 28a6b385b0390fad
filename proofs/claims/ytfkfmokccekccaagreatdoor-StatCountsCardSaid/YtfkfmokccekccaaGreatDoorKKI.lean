/- What the library's Itoa gives, as a contract. -/
import Derived.Test.YtfkfmokccekccaaGreatDoorKKShelf
import Derived.Test.YtfkfmokccekccaaGreatDoorKS0
import Derived.Test.YtfkfmokccekccaaGreatDoorFwD
import Derived.WalkSmall
import Derived.Lib.AppendIntMem
set_option linter.unusedVariables false
set_option linter.unusedSimpArgs false
namespace Go.Proofs.Tryz
open Go.Shelf Go.RowKit Go.VS
theorem Akq:YN (Pg.of prog):=by
 intro n h0 h1
 refine Fn.Abz (t:=.int .i64) (u:=.str) rfl rfl n (Lib.decDigits n.toNat) rfl fun f fn hf hn=>?_
 have hfi:f=133:=FK (by kernel_rfl) hf hn;subst hfi;have hfe:=Option.some.inj (hf.symm.trans func133);subst hfe;refine⟨by kernel_rfl,by kernel_rfl,fun w hw=>?_⟩;have htab:Lib.TabIs prog w "internal/strconv.uint64pow10" .u64 Lib.pow10Tab:=hw.good.tab _ (List.mem_singleton.2 rfl) (by kernel_rfl);refine(Tryz.strconv_Itoa n (by omega) (by omega) w htab).mono ?_
 rintro e w' ⟨he,k,os,rfl⟩;refine⟨?_,?_⟩
 ·rw[he,Lib.itoa,if_neg (by omega)];rfl
 ·exact Lib.below_grow _ w (Nat.le_refl _) k os
end Go.Proofs.Tryz
