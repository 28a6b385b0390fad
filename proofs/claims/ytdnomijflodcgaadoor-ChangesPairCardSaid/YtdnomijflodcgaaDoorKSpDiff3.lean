/- The document's list of differences. -/
import Derived.Test.YtdnomijflodcgaaDoorKSpDiff2
set_option linter.unusedVariables false
set_option linter.unusedSimpArgs false
namespace Go.VS
variable {P : Pg}
theorem Adz : ∀ {l : List AJ}, l.Pairwise (fun x y => x.1 ≠ y.1) → ∀ p, findF l p = match BL l p with | some v => (v, true) | none => ([], false)
 | [], _, p => rfl
 | f :: r, h, p => by
  have h2 := List.pairwise_cons.1 h
  have ih := Adz h2.2 p
  rw [findF, BL]
  by_cases e : f.1 = p
  ·rw [if_pos e]
   have hn : BL r p = none := by
    cases hb : BL r p with
    | none => rfl
    | some v =>
     obtain ⟨g, hg, hgp⟩ := (HX r p).1 (by rw [hb]; rfl)
     exact absurd (e.trans hgp.symm) (h2.1 g hg)
   rw [hn, if_pos e.symm]
  ·rw [if_neg e, ih]
   cases hb : BL r p with
   | some v => rfl
   | none => rw [if_neg (fun h => e h.symm)]
theorem JA.ne {l : List AJ} (h : JA l) : l.Pairwise (fun x y => x.1 ≠ y.1) := by
 rw [List.pairwise_iff_getElem]
 intro i j hi hj hij e
 have h1 := (h j hj i hij).1
 have h2 : pth l i = pth l j := by
  unfold pth
  rw [getD_eq hi, getD_eq hj]
  exact e
 rw [h2, Fv] at h1
 cases h1
end Go.VS
