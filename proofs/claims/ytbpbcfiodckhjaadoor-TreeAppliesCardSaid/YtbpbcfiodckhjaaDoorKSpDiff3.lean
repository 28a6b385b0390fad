/- The document's list of differences. -/
import Derived.Test.YtbpbcfiodckhjaaDoorKSpDiff2
set_option linter.unusedVariables false
set_option linter.unusedSimpArgs false
namespace Go.VS
variable {P : Pg}
theorem K0 : ∀ {l : List Aw}, l.Pairwise (fun x y => x.1 ≠ y.1) → ∀ p, findF l p = match AU l p with | some v => (v, true) | none => ([], false)
 | [], _, p => rfl
 | f :: r, h, p => by
  have h2 := List.pairwise_cons.1 h
  have ih := K0 h2.2 p
  rw [findF, AU]
  by_cases e : f.1 = p
  ·rw [if_pos e]
   have hn : AU r p = none := by
    cases hb : AU r p with
    | none => rfl
    | some v =>
     obtain ⟨g, hg, hgp⟩ := (CN r p).1 (by rw [hb]; rfl)
     exact absurd (e.trans hgp.symm) (h2.1 g hg)
   rw [hn, if_pos e.symm]
  ·rw [if_neg e, ih]
   cases hb : AU r p with
   | some v => rfl
   | none => rw [if_neg (fun h => e h.symm)]
theorem Gn.ne {l : List Aw} (h : Gn l) : l.Pairwise (fun x y => x.1 ≠ y.1) := by
 rw [List.pairwise_iff_getElem]
 intro i j hi hj hij e
 have h1 := (h j hj i hij).1
 have h2 : pth l i = pth l j := by
  unfold pth
  rw [getD_eq hi, getD_eq hj]
  exact e
 rw [h2, DT] at h1
 cases h1
def FJ (a b : List Aw) (p : Bs) : Option A0 := (JS a b p).map fun k => (p, k)
theorem Ue {a b : List Aw} {l : List Bs} (h : Gath a b l a.length b.length) : GW a b (l.filterMap (FJ a b)) := by
 have hk : ∀ p t, FJ a b p = some t → t.1 = p ∧ JS a b p = some t.2 := fun p t ht => by
  unfold FJ at ht
  obtain ⟨k, h1, rfl⟩ := Option.map_eq_some_iff.1 ht
  exact ⟨rfl, h1⟩
 refine ⟨?_, fun p k => ?_⟩
 ·refine List.Pairwise.filterMap _ (fun x y hxy t ht u hu => ?_) h.srt
  rw [(hk x t ht).1, (hk y u hu).1]
  exact hxy
 ·rw [List.mem_filterMap]
  constructor
  ·rintro ⟨q, hq, ht⟩
   obtain ⟨h1, h2⟩ := hk q _ ht
   have h1 : p = q := h1
   subst h1
   exact h2
  ·intro hp
   refine ⟨p, (h.mem p).2 ?_, by unfold FJ; rw [hp]; rfl⟩
   have hin : ∀ {l : List Aw} {v}, AU l p = some v → ∃ k, k < l.length ∧ k < l.length ∧ pth l k = p := fun {l v} hb => by
    obtain ⟨f, hf, hfp⟩ := (CN l p).1 (by rw [hb]; rfl)
    obtain ⟨m, hm⟩ := List.getElem?_of_mem hf
    have hml := (List.getElem?_eq_some_iff.1 hm).1
    refine ⟨m, hml, hml, ?_⟩
    unfold pth
    rw [List.getD_eq_getElem?_getD, hm]
    exact hfp
   unfold JS at hp
   cases ha : AU a p with
   | some v => exact .inl (hin ha)
   | none =>
    cases hb : AU b p with
    | some v => exact .inr (hin hb)
    | none => rw [ha, hb] at hp; cases hp
end Go.VS
