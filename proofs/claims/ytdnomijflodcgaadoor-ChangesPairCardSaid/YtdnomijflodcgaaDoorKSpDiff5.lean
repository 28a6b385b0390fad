/- What tree.Diff gathers, and that it is the differences once sorted. -/
import Derived.Test.YtdnomijflodcgaaDoorKSpDiff3
set_option linter.unusedVariables false
set_option linter.unusedSimpArgs false
namespace Go.VS
variable {P : Pg}
def Gr (b : List AJ) (f : AJ) : Option Bm := match BL b f.1 with
 | none => some (f.1, 2)
 | some v => if v = f.2 then none else some (f.1, 3)
def Je (a : List AJ) (f : AJ) : Option Bm := match BL a f.1 with
 | none => some (f.1, 1)
 | some _ => none
def Kw (a b : List AJ) : List Bm := a.filterMap (Gr b) ++ b.filterMap (Je a)
theorem Pk {b : List AJ} {f : AJ} {t : Bm} (h : Gr b f = some t) : t.1 = f.1 := by
 unfold Gr at h
 split at h
 ·cases h; rfl
 ·split at h
  ·cases h
  ·cases h; rfl
theorem Ob {a : List AJ} {f : AJ} {t : Bm} (h : Je a f = some t) : t.1 = f.1 ∧ BL a f.1 = none := by
 unfold Je at h
 split at h
 ·rename_i h1; cases h; exact ⟨rfl, h1⟩
 ·cases h
theorem JA.blob {l : List AJ} (h : JA l) {f : AJ} (hf : f ∈ l) : BL l f.1 = some f.2 := by
 have h1 := h.ne
 clear h
 induction l with
 | nil => cases hf
 | cons g r ih =>
  have h2 := List.pairwise_cons.1 h1
  rw [BL]
  rcases List.mem_cons.1 hf with rfl | hf
  ·cases hb : BL r f.1 with
   | none => dsimp only; rw [if_pos rfl]
   | some v =>
    obtain ⟨g, hg, he⟩ := (HX r f.1).1 (by rw [hb]; rfl)
    exact absurd he.symm (h2.1 g hg)
  ·rw [ih hf h2.2]
theorem JA.Tk {l : List AJ} (h : JA l) {p v : Bs} : BL l p = some v ↔ (p, v) ∈ l := by
 constructor
 ·intro hb
  obtain ⟨f, hf, rfl⟩ := (HX l p).1 (by rw [hb]; rfl)
  have := h.blob hf
  rw [this] at hb
  cases hb
  exact hf
 ·intro hf
  exact h.blob hf
theorem Yj {a b : List AJ} (ha : JA a) (hb : JA b) (p : Bs) (k : Int) : (p, k) ∈ Kw a b ↔ Yg a b p = some k := by
 unfold Kw Yg
 rw [List.mem_append, List.mem_filterMap, List.mem_filterMap]
 constructor
 ·rintro (⟨f, hf, h⟩ | ⟨f, hf, h⟩)
  ·have h1 := Pk h
   have h1 : p = f.1 := h1
   subst h1
   rw [ha.blob hf]
   unfold Gr at h
   split at h
   ·rename_i h2; rw [h2]; cases h; rfl
   ·rename_i v h2
    rw [h2]
    split at h
    ·cases h
    ·rename_i h3
     cases h
     dsimp only
     rw [if_neg (fun e => h3 e.symm)]
  ·obtain ⟨h1, h2⟩ := Ob h
   have h1 : p = f.1 := h1
   subst h1
   rw [h2, hb.blob hf]
   unfold Je at h
   rw [h2] at h
   cases h; rfl
 ·intro h
  cases h1 : BL a p with
  | none =>
   cases h2 : BL b p with
   | none => rw [h1, h2] at h; cases h
   | some v =>
    rw [h1, h2] at h
    cases h
    exact .inr ⟨(p, v), hb.Tk.1 h2, by unfold Je; rw [h1]⟩
  | some u =>
   refine .inl ⟨(p, u), ha.Tk.1 h1, ?_⟩
   unfold Gr
   cases h2 : BL b p with
   | none => rw [h1, h2] at h; cases h; rfl
   | some v =>
    rw [h1, h2] at h
    dsimp only at h ⊢
    split at h
    ·cases h
    ·rename_i h3
     cases h
     rw [if_neg (fun e => h3 e.symm)]
theorem TG {l : List AJ} (h : l.Pairwise fun x y => x.1 ≠ y.1) {g : AJ → Option Bm} (hg : ∀ f t, g f = some t → t.1 = f.1) : (l.filterMap g).Pairwise fun x y => x.1 ≠ y.1 :=
 h.filterMap g fun x y hxy t ht u hu => by rw [hg x t ht, hg y u hu]; exact hxy
theorem Zl {a b : List AJ} (ha : JA a) (hb : JA b) : (Kw a b).Pairwise fun x y => x.1 ≠ y.1 := by
 unfold Kw
 refine List.pairwise_append.2 ⟨TG ha.ne fun _ _ h => Pk h, TG hb.ne fun _ _ h => (Ob h).1, fun x hx y hy e => ?_⟩
 obtain ⟨f, hf, h1⟩ := List.mem_filterMap.1 hx
 obtain ⟨g, hg, h2⟩ := List.mem_filterMap.1 hy
 obtain ⟨h3, h4⟩ := Ob h2
 rw [← h3, ← e, Pk h1, ha.blob hf] at h4
 cases h4
theorem X5 (a b : List AJ) : (Kw a b).length ≤ a.length + b.length := by
 unfold Kw
 rw [List.length_append]
 exact Nat.add_le_add (List.length_filterMap_le ..) (List.length_filterMap_le ..)
theorem Np {a b : List AJ} (ha : JA a) (hb : JA b) {d : List Bm} (hp : d.Perm (Kw a b)) (hs : d.Pairwise fun x y => Op.bytesLess y.1 x.1 = false) : Mp a b d := by
 refine ⟨?_, fun p k => by rw [hp.mem_iff, Yj ha hb]⟩
 have hn : d.Pairwise fun x y => x.1 ≠ y.1 := hp.symm.pairwise (Zl ha hb) fun h e => h e.symm
 unfold Z1
 refine (hs.and hn).imp ?_
 rintro x y ⟨h1, h2⟩
 rcases Oj h2 with h3 | h3
 ·exact h3
 ·rw [h3] at h1; cases h1
end Go.VS
