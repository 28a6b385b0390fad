/- Commands in the document. -/
import Derived.Test.YtcaandgkdmidkaaDoorKSpCq
import Derived.Test.YtcaandgkdmidkaaDoorKSpWrd
set_option linter.unusedVariables false
set_option linter.unusedSimpArgs false
namespace Go.VS
variable {P : Pg}
def KI (f : Al) : Bs := 97 :: ((if f.2.2.2.1 = true then [98] else []) ++ ((if f.2.2.2.2.1 = true then [99] else []) ++ (if f.2.2.2.2.2 = true then [116] else [])))
def G7 (x : Int × Bool) : Bs × Bs := match AL.find? (fun f => f.2.1 == x.1 && f.2.2.1 == (x.2 && x.1 == 4)) with
 | some f => (f.1, KI f)
 | none => ([], [])
def Gm (P : Pg) : Prop := ∀ x : Int × Bool, Fn P zS7 Bp x fun (d : Bs × Bs) _ => d = G7 x
theorem Vq (h : Has P ES) : Gm P := by
 rintro ⟨k, d⟩
 refine Nb h ?_
 unfold Jd
 refine Ao.of ?_
 dsimp only
 by_cases h1 : k = 1
 ·subst h1; simp; cases d <;> rfl
 by_cases h2 : k = 2
 ·subst h2; simp; cases d <;> rfl
 by_cases h3 : k = 3
 ·subst h3; simp; cases d <;> rfl
 by_cases h4 : k = 4
 ·subst h4; simp; cases d <;> simp <;> rfl
 by_cases h5 : k = 5
 ·subst h5; simp; cases d <;> rfl
 by_cases h6 : k = 6
 ·subst h6; simp; cases d <;> rfl
 by_cases h7 : k = 7
 ·subst h7; simp; cases d <;> rfl
 by_cases h8 : k = 8
 ·subst h8; simp; cases d <;> rfl
 by_cases h9 : k = 9
 ·subst h9; simp; cases d <;> rfl
 simp only [beq_iff_eq, h1, h2, h3, h4, h5, h6, h7, h8, h9, false_implies, true_and, and_true, beq_eq_false_iff_ne, ne_eq, not_false_eq_true, true_implies]
 unfold G7
 rw [List.find?_eq_none.2]
 intro f hf
 have hk : ∀ f ∈ AL, 1 ≤ f.2.1 ∧ f.2.1 ≤ 9 := by decide
 have := hk f hf
 simp only [Bool.and_eq_true, beq_iff_eq, not_and]
 intro he
 omega
theorem Gm.at (h : Gm P) {x : Int × Bool} {K : Bs × Bs → Unit → Prop} (hk : K (G7 x) ()) : Fn P zS7 Bp x K :=
 (h x).to fun (d : Bs × Bs) _ hd => by
  have hd : d = G7 x := hd
  subst hd
  exact hk
theorem Sn (f : Al) : (KI f).length ≤ 4 := by
 unfold KI
 cases f.2.2.2.1 <;> cases f.2.2.2.2.1 <;> cases f.2.2.2.2.2 <;> decide
end Go.VS
