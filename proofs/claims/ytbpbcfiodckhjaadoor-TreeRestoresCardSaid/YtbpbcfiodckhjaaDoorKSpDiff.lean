/- The differences of two trees: what they are, and that they are one list. -/
import Derived.Test.YtbpbcfiodckhjaaDoorKSpTree
set_option linter.unusedVariables false
set_option linter.unusedSimpArgs false
namespace Go.VS
variable {P : Pg}
abbrev A0 := Bs × Int
def JS (a b : List Aw) (p : Bs) : Option Int := match AU a p, AU b p with
 | none, some _ => some 1
 | some _, none => some 2
 | some x, some y => if x = y then none else some 3
 | none, none => none
def Xh (l : List A0) : Prop := l.Pairwise fun x y => Op.bytesLess x.1 y.1 = true
theorem TF : ∀ {l m : List A0}, Xh l → Xh m → (∀ t, t ∈ l ↔ t ∈ m) → l = m
 | [], [], _, _, _ => rfl
 | [], b :: m, _, _, h => by have := (h b).2 (List.mem_cons_self ..); cases this
 | a :: l, [], _, _, h => by have := (h a).1 (List.mem_cons_self ..); cases this
 | a :: l, b :: m, hl, hm, h => by
  have hl2 := List.pairwise_cons.1 hl
  have hm2 := List.pairwise_cons.1 hm
  have hab : a = b := by
   rcases List.mem_cons.1 ((h a).1 (List.mem_cons_self ..)) with e | h1
   ·exact e
   ·rcases List.mem_cons.1 ((h b).2 (List.mem_cons_self ..)) with e | h2
    ·exact e.symm
    ·have h3 := ES (hm2.1 a h1) (hl2.1 b h2)
     rw [DT] at h3
     cases h3
  subst hab
  rw [TF hl2.2 hm2.2 fun t => ⟨fun ht => ?_, fun ht => ?_⟩]
  ·rcases List.mem_cons.1 ((h t).1 (List.mem_cons_of_mem _ ht)) with e | h1
   ·have h3 := hl2.1 t ht
    rw [e, DT] at h3
    cases h3
   ·exact h1
  ·rcases List.mem_cons.1 ((h t).2 (List.mem_cons_of_mem _ ht)) with e | h1
   ·have h3 := hm2.1 t ht
    rw [e, DT] at h3
    cases h3
   ·exact h1
def GW (a b : List Aw) (d : List A0) : Prop := Xh d ∧ ∀ p k, (p, k) ∈ d ↔ JS a b p = some k
theorem QC {a b : List Aw} {d e : List A0} (hd : GW a b d) (he : GW a b e) : d = e :=
 TF hd.1 he.1 fun t => by
  obtain ⟨p, k⟩ := t
  rw [hd.2, he.2]
def Hl (a b : List Aw) : Int := if Eu a ≠ 0 then Eu a else Eu b
def L8 (P : Pg) : Prop := ∀ x : List Aw × List Aw, CH x.1 → CH x.2 → Fn P UL EP x fun (d : List A0 × Int) _ => d.2 = Hl x.1 x.2 ∧ (d.2 ≠ 0 → d.1 = []) ∧ (d.2 = 0 → GW x.1 x.2 d.1)
end Go.VS
