/- Ancestors: who is left of a list of commits. -/
import Derived.Test.YtdnomijflodcgaaDoorKSpDagR
import Derived.Test.YtdnomijflodcgaaDoorKSpChg
set_option linter.unusedVariables false
set_option linter.unusedSimpArgs false
namespace Go.VS
variable {P : Pg}
def Cov (g : List Aq) (l : List Int) (x : Int) : Prop := ∃ f ∈ l, f ≠ x ∧ Rch g f x
def AeF (g : List Aq) (l d : List Int) : Prop := ∃ b : Int → Bool, (∀ x ∈ l, (b x = true ↔ ¬Cov g l x)) ∧ d = l.filter b
theorem AeZ {g : List Aq} {l d e : List Int} (h : AeF g l d) (k : AeF g l e) : d = e := by
 obtain ⟨b, hb, rfl⟩ := h
 obtain ⟨c, hc, rfl⟩ := k
 refine List.filter_congr fun x hx => ?_
 have := (hb x hx).trans (hc x hx).symm
 cases h1 : b x <;> cases h2 : c x <;> simp_all
theorem Afr : ∀ {l m : List Int}, (l.Pairwise fun x y => x < y) → (m.Pairwise fun x y => x < y) → (∀ t, t ∈ l ↔ t ∈ m) → l = m
 | [], [], _, _, _ => rfl
 | [], b :: m, _, _, h => nomatch (h b).2 (List.mem_cons_self ..)
 | a :: l, [], _, _, h => nomatch (h a).1 (List.mem_cons_self ..)
 | a :: l, b :: m, hl, hm, h => by
  have hl2 := List.pairwise_cons.1 hl
  have hm2 := List.pairwise_cons.1 hm
  have e : a = b := by
   rcases List.mem_cons.1 ((h a).1 (List.mem_cons_self ..)) with e | h1
   ·exact e
   ·rcases List.mem_cons.1 ((h b).2 (List.mem_cons_self ..)) with e | h2
    ·exact e.symm
    ·have := hm2.1 a h1
     have := hl2.1 b h2
     omega
  subst e
  rw [Afr hl2.2 hm2.2 fun t => ⟨fun ht => ?_, fun ht => ?_⟩]
  ·rcases List.mem_cons.1 ((h t).1 (List.mem_cons_of_mem _ ht)) with e | h1
   ·have := hl2.1 t ht
    omega
   ·exact h1
  ·rcases List.mem_cons.1 ((h t).2 (List.mem_cons_of_mem _ ht)) with e | h1
   ·have := hm2.1 t ht
    omega
   ·exact h1
def AeB (g : List Aq) (p : Int → Prop) (d : List Int) : Prop := ∃ b : Int → Bool, (∀ x, inR g x → (b x = true ↔ p x)) ∧ d = (rng g.length).filter b
theorem Ae0 {g : List Aq} {p q : Int → Prop} {d e : List Int} (h : AeB g p d) (k : AeB g q e) (hpq : ∀ x, inR g x → (p x ↔ q x)) : d = e := by
 obtain ⟨b, hb, rfl⟩ := h
 obtain ⟨c, hc, rfl⟩ := k
 refine List.filter_congr fun x hx => ?_
 have hx : inR g x := EV.1 hx
 have := ((hb x hx).trans (hpq x hx)).trans (hc x hx).symm
 cases h1 : b x <;> cases h2 : c x <;> simp_all
theorem AeB.mem {g : List Aq} {p : Int → Prop} {d : List Int} (h : AeB g p d) {x : Int} : x ∈ d ↔ inR g x ∧ p x := by
 obtain ⟨b, hb, rfl⟩ := h
 rw [List.mem_filter, EV]
 exact ⟨fun k => ⟨k.1, (hb x k.1).1 k.2⟩, fun k => ⟨k.1, (hb x k.1).2 k.2⟩⟩
theorem Agi (n : Nat) : (rng n).Pairwise fun x y => x < y := by
 unfold rng
 rw [List.pairwise_map]
 exact (List.pairwise_lt_range).imp fun h => by omega
theorem AeB.len {g : List Aq} {p : Int → Prop} {d : List Int} (h : AeB g p d) : d.length ≤ g.length := by
 obtain ⟨b, _, rfl⟩ := h
 exact Nat.le_trans (List.length_filter_le _ _) (by rw [IL]; exact Nat.le_refl _)
theorem Afn {g : List Aq} {p : Int → Prop} {d : List Int} (hs : d.Pairwise fun x y => x < y) (hm : ∀ x, x ∈ d ↔ inR g x ∧ p x) : AeB g p d := by
 refine ⟨fun x => decide (x ∈ d), fun x hx => ?_, ?_⟩
 ·rw [decide_eq_true_eq, hm]
  exact ⟨fun h => h.2, fun h => ⟨hx, h⟩⟩
 ·refine Afr hs ((Agi _).sublist List.filter_sublist) fun x => ?_
  rw [List.mem_filter, EV, decide_eq_true_eq]
  exact ⟨fun h => ⟨((hm x).1 h).1, h⟩, fun h => h.2⟩
theorem AeF.sub {g : List Aq} {l d : List Int} (h : AeF g l d) : d.Sublist l := by
 obtain ⟨b, _, rfl⟩ := h
 exact List.filter_sublist
theorem AeF.mem {g : List Aq} {l d : List Int} (h : AeF g l d) {x : Int} : x ∈ d ↔ x ∈ l ∧ ¬Cov g l x := by
 obtain ⟨b, hb, rfl⟩ := h
 rw [List.mem_filter]
 exact ⟨fun k => ⟨k.1, (hb x k.1).1 k.2⟩, fun k => ⟨k.1, (hb x k.1).2 k.2⟩⟩
def Afi {α : Type} (g : List Aq) (ok : Prop) (z : α) (good : α → Prop) (d : α × Int) : Prop := ∃ e, DF g e ∧ (e ≠ 0 → d = (z, e)) ∧ (e = 0 → ¬ok → d = (z, 5)) ∧ (e = 0 → ok → good d.1 ∧ d.2 = 0)
def Aiw (g : List Aq) (c : Int) (d : List Int × Int) : Prop := Afi g (inR g c) [] (AeB g (Rch g c)) d
def AiE (g : List Aq) (a c : Int) (d : Bool × Int) : Prop := Afi g (inR g a ∧ inR g c) false (fun b => b = true ↔ Rch g c a) d
def Aev (g : List Aq) (a b : Int) (d : List Int × Int) : Prop := Afi g (inR g a ∧ inR g b) [] (fun d => ∃ L, AeB g (fun x => Rch g a x ∧ Rch g b x) L ∧ AeF g L d) d
def Afz (g : List Aq) (l : List Int) (d : List Int × Int) : Prop := Afi g (∀ x ∈ l, inR g x) [] (fun d => ∃ L, AeB g (fun x => x ∈ l) L ∧ AeF g L d) d
end Go.VS
