/- The differences of two trees: what they are, and that they are one list. -/
import Derived.Test.YtdnomijflodcgaaDoorKSpTree
set_option linter.unusedVariables false
set_option linter.unusedSimpArgs false
namespace Go.VS
variable {P : Pg}
abbrev Bm := Bs × Int
def Yg (a b : List AJ) (p : Bs) : Option Int := match BL a p, BL b p with
 | none, some _ => some 1
 | some _, none => some 2
 | some x, some y => if x = y then none else some 3
 | none, none => none
def Z1 (l : List Bm) : Prop := l.Pairwise fun x y => Op.bytesLess x.1 y.1 = true
theorem V1 : ∀ {l m : List Bm}, Z1 l → Z1 m → (∀ t, t ∈ l ↔ t ∈ m) → l = m
 | [], [], _, _, _ => rfl
 | [], b :: m, _, _, h => by have := (h b).2 (List.mem_cons_self ..); cases this
 | a :: l, [], _, _, h => by have := (h a).1 (List.mem_cons_self ..); cases this
 | a :: l, b :: m, hl, hm, h => by
  have hl2 := List.pairwise_cons.1 hl
  have hm2 := List.pairwise_cons.1 hm
  have hab : a = b := by
   rcases List.mem_cons.1 ((h a).1 (List.mem_cons_self ..)) with e | h1
   ·exact e
   ·rcases List.mem_cons.1 ((h b).2 (List.mem_cons_self ..)) with e | h2
    ·exact e.symm
    ·have h3 := HW (hm2.1 a h1) (hl2.1 b h2)
     rw [Fv] at h3
     cases h3
  subst hab
  rw [V1 hl2.2 hm2.2 fun t => ⟨fun ht => ?_, fun ht => ?_⟩]
  ·rcases List.mem_cons.1 ((h t).1 (List.mem_cons_of_mem _ ht)) with e | h1
   ·have h3 := hl2.1 t ht
    rw [e, Fv] at h3
    cases h3
   ·exact h1
  ·rcases List.mem_cons.1 ((h t).2 (List.mem_cons_of_mem _ ht)) with e | h1
   ·have h3 := hm2.1 t ht
    rw [e, Fv] at h3
    cases h3
   ·exact h1
def Mp (a b : List AJ) (d : List Bm) : Prop := Z1 d ∧ ∀ p k, (p, k) ∈ d ↔ Yg a b p = some k
theorem S9 {a b : List AJ} {d e : List Bm} (hd : Mp a b d) (he : Mp a b e) : d = e :=
 V1 hd.1 he.1 fun t => by
  obtain ⟨p, k⟩ := t
  rw [hd.2, he.2]
def Jh (a b : List AJ) : Int := if Du a ≠ 0 then Du a else Du b
def Oa (P : Pg) : Prop := ∀ x : List AJ × List AJ, ER x.1 → ER x.2 → Fn P "mergelens/tree.Diff" I8 x fun (d : List Bm × Int) _ => d.2 = Jh x.1 x.2 ∧ (d.2 ≠ 0 → d.1 = []) ∧ (d.2 = 0 → Mp x.1 x.2 d.1)
end Go.VS
