/- The statements about how alike two blobs are. -/
import Derived.Test.YtbpbcfiodckhjaaDoorKSpSim
import Derived.Test.YtbpbcfiodckhjaaDoorKSpNb
import Derived.Test.YtbpbcfiodckhjaaDoorKSpTxt
import Derived.Test.YtbpbcfiodckhjaaDoorKSpLn
set_option linter.unusedVariables false
set_option linter.unusedSimpArgs false
namespace Go.VS
variable {P : Pg}
theorem Ya (x y : List Bs) : ∀ {l m : List Bs}, l.Nodup → m.Nodup → (∀ t, t ∈ l ↔ t ∈ m) → W7 x y l = W7 x y m
 | [], m, _, _, h => by
  cases m with
  | nil => rfl
  | cons a m => have := (h a).2 (List.mem_cons_self ..); cases this
 | a :: l, m, hl, hm, h => by
  have hl2 := List.nodup_cons.1 hl
  rw [XD x y ((h a).1 (List.mem_cons_self ..)), W7, Ya x y hl2.2 (hm.erase a) fun t => ?_]
  rw [hm.mem_erase_iff, ← h t, List.mem_cons]
  exact ⟨fun ht => ⟨fun e => hl2.1 (e ▸ ht), .inr ht⟩, fun ⟨h1, h2⟩ => h2.elim (fun e => absurd e h1) id⟩
end Go.VS
