/- The document's performing of differences. -/
import Derived.Test.YtbpbcfiodckhjaaDoorKSpApp
import Derived.Test.YtbpbcfiodckhjaaDoorKSpDiff4
set_option linter.unusedVariables false
set_option linter.unusedSimpArgs false
namespace Go.VS
variable {P : Pg}
theorem AbO {a b : List Aw} {d : List A0} (hd : d.Pairwise fun x y => x.1 ≠ y.1) (hp : d.all (AaJ a b) = true) {p : Bs} (h : (AaP a b d p).isSome = true) : (AU a p).isSome = true ∨ (AU b p).isSome = true := by
 by_cases hm : ∃ x ∈ d, x.1 = p
 ·obtain ⟨x, hx, rfl⟩ := hm
  have h1 := List.all_eq_true.1 hp x hx
  unfold AaP at h
  rw [Abv d b _ hx hd] at h
  split at h
  ·cases h
  ·rename_i h2
   unfold AaJ at h1
   split at h1
   ·rw [Bool.and_eq_true] at h1; exact .inr h1.1
   ·rw [Bool.and_eq_true] at h1
    exact .inr h1.2
 ·unfold AaP at h
  rw [Abf d b _ fun x hx e => hm ⟨x, hx, e⟩] at h
  exact .inl h
theorem Aa4 : ∀ {l : List Aw} {p v : Bs}, AU l p = some v → (p, v) ∈ l
 | [], _, _, h => nomatch h
 | f :: r, p, v, h => by
  rw [AU] at h
  cases hb : AU r p with
  | some u =>
   rw [hb] at h
   cases h
   exact List.mem_cons_of_mem _ (Aa4 hb)
  | none =>
   rw [hb] at h
   dsimp only at h
   split at h
   ·rename_i e
    cases h
    rw [e]
    exact List.mem_cons_self ..
   ·cases h
theorem AbP {b : List Aw} (hb : CH b) : ∀ (d : List A0) (g : Bs → Option Bs), (∀ t ∈ d, t.1.length ≤ 140737488351232) → (∀ p v, g p = some v → p.length ≤ 140737488351232 ∧ v.length ≤ 140737488351232) → ∀ p v, d.foldl (stepG b) g p = some v → p.length ≤ 140737488351232 ∧ v.length ≤ 140737488351232
 | [], g, _, hg, p, v, h => hg p v h
 | x :: d, g, hd, hg, p, v, h => by
  rw [List.foldl_cons] at h
  refine AbP hb d (stepG b g x) (fun t ht => hd t (List.mem_cons_of_mem _ ht)) (fun q u hq => ?_) p v h
  unfold stepG at hq
  split at hq
  ·rename_i e
   split at hq
   ·cases hq
   ·cases hq
    refine ⟨by rw [e]; exact hd x (List.mem_cons_self ..), ?_⟩
    cases hbx : AU b x.1 with
    | none => exact Nat.zero_le _
    | some u => exact (hb.2 _ (Aa4 hbx)).2
  ·exact hg q u hq
theorem Abr {a b : List Aw} {d : List A0} (ha : CH a) (hb : CH b) (hd : ∀ t ∈ d, t.1.length ≤ 140737488351232) {p v : Bs} (h : AaP a b d p = some v) : p.length ≤ 140737488351232 ∧ v.length ≤ 140737488351232 :=
 AbP hb d (AU a) hd (fun p v hg => ha.2 _ (Aa4 hg)) p v h
theorem AaV {l : List Aw} (h : Eu l = 0) : l.length ≤ 200 := by
 unfold Eu at h
 split at h
 ·cases h
 ·omega
theorem Abe {a b : List Aw} {d : List A0} (hca : Eu a = 0) (hcb : Eu b = 0) (ha : CH a) (hb : CH b) (hd : ∀ t ∈ d, t.1.length ≤ 140737488351232) (hdp : d.Pairwise fun x y => x.1 ≠ y.1) (hp : d.all (AaJ a b) = true) {o : List Aw} (h : AaU (AaP a b d) o) : CH o := by
 have hn : (o.map (·.1)).Nodup := by
  rw [List.nodup_iff_pairwise_ne, List.pairwise_map]
  refine h.1.imp fun {x y} hxy e => ?_
  rw [e, DT] at hxy
  cases hxy
 have hs : ∀ p ∈ o.map (·.1), p ∈ (a ++ b).map (·.1) := fun p hm => by
  obtain ⟨t, ht, rfl⟩ := List.mem_map.1 hm
  have h1 := (h.2 t.1 t.2).1 ht
  rw [List.map_append, List.mem_append]
  rcases AbO hdp hp (p := t.1) (by rw [h1]; rfl) with h2 | h2
  ·obtain ⟨f, hf, e⟩ := (CN a t.1).1 h2
   exact .inl (List.mem_map.2 ⟨f, hf, e⟩)
  ·obtain ⟨f, hf, e⟩ := (CN b t.1).1 h2
   exact .inr (List.mem_map.2 ⟨f, hf, e⟩)
 have hl := OK hn hs
 rw [List.length_map, List.length_map, List.length_append] at hl
 have h1 := AaV hca
 have h2 := AaV hcb
 exact ⟨by omega, fun f hf => Abr ha hb hd ((h.2 f.1 f.2).1 hf)⟩
end Go.VS
