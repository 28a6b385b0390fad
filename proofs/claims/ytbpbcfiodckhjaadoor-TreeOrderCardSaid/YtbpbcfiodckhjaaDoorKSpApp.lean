/- What performing differences gives, and that it is one tree. -/
import Derived.Test.YtbpbcfiodckhjaaDoorKSpDiff5
set_option linter.unusedVariables false
set_option linter.unusedSimpArgs false
namespace Go.VS
variable {P : Pg}
theorem OK {α : Type} [DecidableEq α] : ∀ {l m : List α}, l.Nodup → (∀ x ∈ l, x ∈ m) → l.length ≤ m.length
 | [], _, _, _ => Nat.zero_le _
 | a :: l, m, hn, hs => by
  have h2 := List.nodup_cons.1 hn
  have ha := hs a (List.mem_cons_self ..)
  have ih := OK (m := m.erase a) h2.2 fun x hx => (List.mem_erase_of_ne (show x ≠ a from fun e => h2.1 (by rw [← e]; exact hx))).2 (hs x (List.mem_cons_of_mem _ hx))
  rw [List.length_erase_of_mem ha] at ih
  have := List.length_pos_of_mem ha
  rw [List.length_cons]
  omega
def AaL : List A0 → List Bs → Bool
 | [], _ => true
 | x :: r, seen => if x.2 < 1 ∨ x.2 > 3 ∨ x.1 ∈ seen then false else AaL r (x.1 :: seen)
def AaJ (a b : List Aw) (x : A0) : Bool :=
 if x.2 = 1 then (AU b x.1).isSome && !(AU a x.1).isSome else if x.2 = 2 then (AU a x.1).isSome else (AU a x.1).isSome && (AU b x.1).isSome
def stepG (b : List Aw) (g : Bs → Option Bs) (x : A0) : Bs → Option Bs := fun p => if p = x.1 then (if x.2 = 2 then none else some ((AU b x.1).getD [])) else g p
def AaP (a b : List Aw) (d : List A0) : Bs → Option Bs := d.foldl (stepG b) (AU a)
def AaU (g : Bs → Option Bs) (l : List Aw) : Prop := (l.Pairwise fun x y => Op.bytesLess x.1 y.1 = true) ∧ ∀ p v, (p, v) ∈ l ↔ g p = some v
theorem AbB : ∀ {l m : List Aw}, (l.Pairwise fun x y => Op.bytesLess x.1 y.1 = true) → (m.Pairwise fun x y => Op.bytesLess x.1 y.1 = true) → (∀ t, t ∈ l ↔ t ∈ m) → l = m
 | [], [], _, _, _ => rfl
 | [], b :: m, _, _, h => by have := (h b).2 (List.mem_cons_self ..); cases this
 | a :: l, [], _, _, h => by have := (h a).1 (List.mem_cons_self ..); cases this
 | a :: l, b :: m, hl, hm, h => by
  have hl2 := List.pairwise_cons.1 hl
  have hm2 := List.pairwise_cons.1 hm
  have hab : a = b := by
   rcases List.mem_cons.1 ((h a).1 (List.mem_cons_self ..)) with e | h1
   ·exact e
   ·rcases List.mem_cons.1 ((h b).2 (List.mem_cons_self ..)) with e | h2
    ·exact e.symm
    ·have h3 := ES (hm2.1 a h1) (hl2.1 b h2)
     rw [DT] at h3
     cases h3
  subst hab
  rw [AbB hl2.2 hm2.2 fun t => ⟨fun ht => ?_, fun ht => ?_⟩]
  ·rcases List.mem_cons.1 ((h t).1 (List.mem_cons_of_mem _ ht)) with e | h1
   ·have h3 := hl2.1 t ht
    rw [e, DT] at h3
    cases h3
   ·exact h1
  ·rcases List.mem_cons.1 ((h t).2 (List.mem_cons_of_mem _ ht)) with e | h1
   ·have h3 := hm2.1 t ht
    rw [e, DT] at h3
    cases h3
   ·exact h1
theorem Aby {g : Bs → Option Bs} {l m : List Aw} (hl : AaU g l) (hm : AaU g m) : l = m :=
 AbB hl.1 hm.1 fun t => by
  obtain ⟨p, k⟩ := t
  rw [hl.2, hm.2]
def AaK (a b : List Aw) (d : List A0) (r : List Aw × Int) : Prop :=
 (Hl a b ≠ 0 → r = ([], Hl a b)) ∧ (Hl a b = 0 → AaL d [] = false → r = ([], 2)) ∧ (Hl a b = 0 → AaL d [] = true → d.all (AaJ a b) = false → r = ([], 5)) ∧
 (Hl a b = 0 → AaL d [] = true → d.all (AaJ a b) = true → ∃ out, AaU (AaP a b d) out ∧ r = if Eu out ≠ 0 then ([], Eu out) else (out, 0))
def Aa7 (P : Pg) : Prop := ∀ x : List Aw × (List Aw × List A0), CH x.1 → CH x.2.1 → x.2.2.length ≤ 1000000 → (∀ t ∈ x.2.2, t.1.length ≤ 140737488351232) → Fn P UL AaN x fun (r : List Aw × Int) _ => AaK x.1 x.2.1 x.2.2 r
theorem AaZ : ∀ (d : List A0) (seen : List Bs), AaL d seen = true ↔ (∀ x ∈ d, 1 ≤ x.2 ∧ x.2 ≤ 3 ∧ x.1 ∉ seen) ∧ d.Pairwise fun x y => x.1 ≠ y.1
 | [], seen => by simp [AaL]
 | x :: r, seen => by
  rw [AaL, List.pairwise_cons]
  split
  ·rename_i h
   simp only [Bool.false_eq_true, false_iff, not_and]
   intro h1 _ _
   have := h1 x (List.mem_cons_self ..)
   rcases h with h | h | h
   ·omega
   ·omega
   ·exact this.2.2 h
  ·rename_i h
   rw [AaZ r]
   constructor
   ·rintro ⟨h1, h2⟩
    refine ⟨fun y hy => ?_, fun y hy e => ?_, h2⟩
    ·rcases List.mem_cons.1 hy with rfl | hy
     ·exact ⟨by omega, by omega, fun hm => h (.inr (.inr hm))⟩
     ·have := h1 y hy
      exact ⟨this.1, this.2.1, fun hm => this.2.2 (List.mem_cons_of_mem _ hm)⟩
    ·exact (h1 y hy).2.2 (by rw [← e]; exact List.mem_cons_self ..)
   ·rintro ⟨h1, h2, h3⟩
    refine ⟨fun y hy => ?_, h3⟩
    have := h1 y (List.mem_cons_of_mem _ hy)
    refine ⟨this.1, this.2.1, fun hm => ?_⟩
    rcases List.mem_cons.1 hm with e | hm
    ·exact h2 y hy e.symm
    ·exact this.2.2 hm
theorem Abf : ∀ (d : List A0) (b : List Aw) (g : Bs → Option Bs) {p : Bs}, (∀ x ∈ d, x.1 ≠ p) → d.foldl (stepG b) g p = g p
 | [], b, g, p, _ => rfl
 | x :: r, b, g, p, h => by
  rw [List.foldl_cons, Abf r b _ fun y hy => h y (List.mem_cons_of_mem _ hy)]
  unfold stepG
  rw [if_neg fun e => h x (List.mem_cons_self ..) e.symm]
theorem Abv : ∀ (d : List A0) (b : List Aw) (g : Bs → Option Bs) {x : A0}, x ∈ d → (d.Pairwise fun x y => x.1 ≠ y.1) → d.foldl (stepG b) g x.1 = if x.2 = 2 then none else some ((AU b x.1).getD [])
 | [], b, g, x, h, _ => nomatch h
 | y :: r, b, g, x, h, hp => by
  have h2 := List.pairwise_cons.1 hp
  rw [List.foldl_cons]
  rcases List.mem_cons.1 h with rfl | h
  ·rw [Abf r b _ fun z hz e => h2.1 z hz e.symm]
   unfold stepG
   rw [if_pos rfl]
  ·exact Abv r b _ h h2.2
end Go.VS
