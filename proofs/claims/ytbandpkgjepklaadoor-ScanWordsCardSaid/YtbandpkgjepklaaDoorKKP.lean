/- What the library's Itoa and the program's Quote give, as contracts. -/
import Derived.Test.YtbandpkgjepklaaDoorKKQ
import Derived.Test.YtbandpkgjepklaaDoorKSpFmt
import Derived.Test.YtbandpkgjepklaaDoorKSpQuo
import Derived.Lib.AppendIntMem
set_option linter.unusedVariables false
set_option linter.unusedSimpArgs false
namespace Go.Proofs.Tryd
open Go.Shelf Go.RowKit Go.VS

theorem quote_fn (hEsc : Sp_escaped prog) : Sp_Quote prog := by
  intro s hs
  refine Fn.of_calls (t := .str) (u := .str) rfl rfl s (quoteF s) rfl fun f fn hf hn => ?_
  have hfi : f = 18 := uniq_of (by kernel_rfl) hf hn
  subst hfi
  have hfe := Option.some.inj (hf.symm.trans func18)
  subst hfe
  refine ⟨by kernel_rfl, by kernel_rfl, fun w hw => ?_⟩
  have h := quote_calls hEsc ⟨s.toArray⟩ (by simpa [ByteArray.size] using hs) w hw
  exact h
theorem itoa_fn : Sp_Itoa prog := by
  intro n h0 h1
  refine Fn.of_calls (t := .int .i64) (u := .str) rfl rfl n (Lib.decDigits n.toNat) rfl fun f fn hf hn => ?_
  have hfi : f = 28 := uniq_of (by kernel_rfl) hf hn
  subst hfi
  have hfe := Option.some.inj (hf.symm.trans func28)
  subst hfe
  refine ⟨by kernel_rfl, by kernel_rfl, fun w hw => ?_⟩
  have htab : Lib.TabIs prog w "internal/strconv.uint64pow10" .u64 Lib.pow10Tab := hw.good _ (List.mem_singleton.2 rfl) (by kernel_rfl)
  refine (Tryd.strconv_Itoa n (by omega) (by omega) w htab).mono ?_
  rintro e w' ⟨he, k, os, rfl⟩
  refine ⟨?_, ?_⟩
  · rw [he, Lib.itoa, if_neg (by omega)]
    rfl
  · exact Lib.below_grow _ w (Nat.le_refl _) k os
end Go.Proofs.Tryd
