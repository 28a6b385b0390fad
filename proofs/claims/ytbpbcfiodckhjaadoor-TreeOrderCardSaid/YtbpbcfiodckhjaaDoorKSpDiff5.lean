/- What tree.Diff gathers, and that it is the differences once sorted. -/
import Derived.Test.YtbpbcfiodckhjaaDoorKSpDiff3
set_option linter.unusedVariables false
set_option linter.unusedSimpArgs false
namespace Go.VS
variable {P : Pg}
def Fh (b : List Aw) (f : Aw) : Option A0 := match AU b f.1 with
 | none => some (f.1, 2)
 | some v => if v = f.2 then none else some (f.1, 3)
def Hz (a : List Aw) (f : Aw) : Option A0 := match AU a f.1 with
 | none => some (f.1, 1)
 | some _ => none
def IJ (a b : List Aw) : List A0 := a.filterMap (Fh b) ++ b.filterMap (Hz a)
theorem Nd {b : List Aw} {f : Aw} {t : A0} (h : Fh b f = some t) : t.1 = f.1 := by
 unfold Fh at h
 split at h
 ·cases h; rfl
 ·split at h
  ·cases h
  ·cases h; rfl
theorem Mb {a : List Aw} {f : Aw} {t : A0} (h : Hz a f = some t) : t.1 = f.1 ∧ AU a f.1 = none := by
 unfold Hz at h
 split at h
 ·rename_i h1; cases h; exact ⟨rfl, h1⟩
 ·cases h
theorem Gn.blob {l : List Aw} (h : Gn l) {f : Aw} (hf : f ∈ l) : AU l f.1 = some f.2 := by
 have h1 := h.ne
 clear h
 induction l with
 | nil => cases hf
 | cons g r ih =>
  have h2 := List.pairwise_cons.1 h1
  rw [AU]
  rcases List.mem_cons.1 hf with rfl | hf
  ·cases hb : AU r f.1 with
   | none => dsimp only; rw [if_pos rfl]
   | some v =>
    obtain ⟨g, hg, he⟩ := (CN r f.1).1 (by rw [hb]; rfl)
    exact absurd he.symm (h2.1 g hg)
  ·rw [ih hf h2.2]
theorem Gn.QO {l : List Aw} (h : Gn l) {p v : Bs} : AU l p = some v ↔ (p, v) ∈ l := by
 constructor
 ·intro hb
  obtain ⟨f, hf, rfl⟩ := (CN l p).1 (by rw [hb]; rfl)
  have := h.blob hf
  rw [this] at hb
  cases hb
  exact hf
 ·intro hf
  exact h.blob hf
theorem VD {a b : List Aw} (ha : Gn a) (hb : Gn b) (p : Bs) (k : Int) : (p, k) ∈ IJ a b ↔ JS a b p = some k := by
 unfold IJ JS
 rw [List.mem_append, List.mem_filterMap, List.mem_filterMap]
 constructor
 ·rintro (⟨f, hf, h⟩ | ⟨f, hf, h⟩)
  ·have h1 := Nd h
   have h1 : p = f.1 := h1
   subst h1
   rw [ha.blob hf]
   unfold Fh at h
   split at h
   ·rename_i h2; rw [h2]; cases h; rfl
   ·rename_i v h2
    rw [h2]
    split at h
    ·cases h
    ·rename_i h3
     cases h
     dsimp only
     rw [if_neg (fun e => h3 e.symm)]
  ·obtain ⟨h1, h2⟩ := Mb h
   have h1 : p = f.1 := h1
   subst h1
   rw [h2, hb.blob hf]
   unfold Hz at h
   rw [h2] at h
   cases h; rfl
 ·intro h
  cases h1 : AU a p with
  | none =>
   cases h2 : AU b p with
   | none => rw [h1, h2] at h; cases h
   | some v =>
    rw [h1, h2] at h
    cases h
    exact .inr ⟨(p, v), hb.QO.1 h2, by unfold Hz; rw [h1]⟩
  | some u =>
   refine .inl ⟨(p, u), ha.QO.1 h1, ?_⟩
   unfold Fh
   cases h2 : AU b p with
   | none => rw [h1, h2] at h; cases h; rfl
   | some v =>
    rw [h1, h2] at h
    dsimp only at h ⊢
    split at h
    ·cases h
    ·rename_i h3
     cases h
     rw [if_neg (fun e => h3 e.symm)]
theorem Q7 {l : List Aw} (h : l.Pairwise fun x y => x.1 ≠ y.1) {g : Aw → Option A0} (hg : ∀ f t, g f = some t → t.1 = f.1) : (l.filterMap g).Pairwise fun x y => x.1 ≠ y.1 :=
 h.filterMap g fun x y hxy t ht u hu => by rw [hg x t ht, hg y u hu]; exact hxy
theorem Wz {a b : List Aw} (ha : Gn a) (hb : Gn b) : (IJ a b).Pairwise fun x y => x.1 ≠ y.1 := by
 unfold IJ
 refine List.pairwise_append.2 ⟨Q7 ha.ne fun _ _ h => Nd h, Q7 hb.ne fun _ _ h => (Mb h).1, fun x hx y hy e => ?_⟩
 obtain ⟨f, hf, h1⟩ := List.mem_filterMap.1 hx
 obtain ⟨g, hg, h2⟩ := List.mem_filterMap.1 hy
 obtain ⟨h3, h4⟩ := Mb h2
 rw [← h3, ← e, Nd h1, ha.blob hf] at h4
 cases h4
theorem Vu (a b : List Aw) : (IJ a b).length ≤ a.length + b.length := by
 unfold IJ
 rw [List.length_append]
 exact Nat.add_le_add (List.length_filterMap_le ..) (List.length_filterMap_le ..)
theorem QB {a b : List Aw} (ha : Gn a) (hb : Gn b) {d : List A0} (hp : d.Perm (IJ a b)) (hs : d.Pairwise fun x y => Op.bytesLess y.1 x.1 = false) : GW a b d := by
 refine ⟨?_, fun p k => by rw [hp.mem_iff, VD ha hb]⟩
 have hn : d.Pairwise fun x y => x.1 ≠ y.1 := hp.symm.pairwise (Wz ha hb) fun h e => h e.symm
 unfold Xh
 refine (hs.and hn).imp ?_
 rintro x y ⟨h1, h2⟩
 rcases JA h2 with h3 | h3
 ·exact h3
 ·rw [h3] at h1; cases h1
end Go.VS
