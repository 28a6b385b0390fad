/- TreeDiffs. -/
import Derived.Test.YtdnomijflodcgaaDoorKSpEq
import Derived.Test.YtdnomijflodcgaaDoorKSpRTree
import Derived.Test.YtdnomijflodcgaaDoorKSpLn
import Derived.Test.YtdnomijflodcgaaDoorKSpApp
set_option linter.unusedVariables false
set_option linter.unusedSimpArgs false
namespace Go.VS
variable {P : Pg}
def Mo (a b : List AJ) (d : List Bm × Int) : Prop := d.2 = Jh a b ∧ (d.2 ≠ 0 → d.1 = []) ∧ (d.2 = 0 → Mp a b d.1)
theorem Ad2 {a b : List AJ} {d : List Bm} (h : Mp a b d) : d.length ≤ a.length + b.length := by
 have hn : (d.map (·.1)).Nodup := by
  rw [List.nodup_iff_pairwise_ne, List.pairwise_map]
  refine h.1.imp fun {x y} hxy e => ?_
  rw [e, Fv] at hxy
  cases hxy
 have hs : ∀ p ∈ d.map (·.1), p ∈ (a ++ b).map (·.1) := fun p hp => by
  obtain ⟨t, ht, rfl⟩ := List.mem_map.1 hp
  have := (h.2 t.1 t.2).1 ht
  unfold Yg at this
  rw [List.map_append, List.mem_append]
  cases h1 : BL a t.1 with
  | some v =>
   obtain ⟨f, hf, e⟩ := (HX a t.1).1 (by rw [h1]; rfl)
   exact .inl (List.mem_map.2 ⟨f, hf, e⟩)
  | none =>
   cases h2 : BL b t.1 with
   | some v =>
    obtain ⟨f, hf, e⟩ := (HX b t.1).1 (by rw [h2]; rfl)
    exact .inr (List.mem_map.2 ⟨f, hf, e⟩)
   | none => rw [h1, h2] at this; cases this
 have := Gx hn hs
 rw [List.length_map, List.length_map, List.length_append] at this
 exact this
end Go.VS
