/- The statements about layer 6. -/
import Derived.Test.YtobddjdmgebmgaaKSpSearch
set_option linter.unusedVariables false
set_option linter.unusedSimpArgs false
set_option linter.unusedSectionVars false
namespace Go.VS
variable {P : Program}

def Sp_Spans (P : Program) : Prop := ∀ x : List (Int × Int) × List (Int × Int), x.1.length ≤ 1099511627776 → Fn P "mergelens/mergelensgen.Spans" S_gen_Spans x fun (d : Bool) _ => d = true ↔ x.1 = x.2
theorem sp_Spans (h : Has P F_gen_Spans) : Sp_Spans P := by
  rintro ⟨l, m⟩ hl
  refine fn_gen_Spans h ?_
  unfold W_gen_Spans
  dsimp only at hl ⊢
  refine ⟨fun hc => ?_, fun hc => ?_⟩
  · simp at hc
    exact ⟨fun h => (nomatch h), fun h => by rw [h] at hc; exact (hc rfl).elim⟩
  simp at hc
  refine JoinW.mid (fun _ => l = m) ?_ fun d hd => ⟨fun _ => hd, fun _ => rfl⟩
  refine LoopW.of (fun d => 0 ≤ d.2 ∧ d.2 ≤ l.length ∧ ∀ k : Nat, (k : Int) < d.2 → l.getD k ((0 : Int), (0 : Int)) = m.getD k ((0 : Int), (0 : Int))) (fun d => (l.length - d.2).toNat) ⟨Int.le_refl _, by dsimp only; omega, fun k hk => by dsimp only at hk; omega⟩ ?_
  rintro ⟨u, k⟩ ⟨k0, k1, hk⟩
  dsimp only at k0 k1 hk ⊢
  refine ⟨fun hb => JoinW.of ?_, fun hb => ?_⟩
  · have hb := of_decide_eq_true hb
    rw [w64 (by omega) (by omega)]
    refine ⟨⟨k0, hb⟩, by omega, ⟨k0, by omega⟩, by omega, fun he => ?_, fun he => ?_⟩
    · simp [-List.getD_eq_getElem?_getD] at he
      exact ⟨fun h => (nomatch h), fun h => by subst h; simp at he⟩
    · simp [-List.getD_eq_getElem?_getD] at he
      refine ⟨⟨by omega, by omega, fun k' hk' => ?_⟩, by omega⟩
      by_cases e : k' = k.toNat
      · subst e; exact Prod.ext he.1 he.2
      · exact hk k' (by omega)
  · have hb := of_decide_eq_false hb
    exact ext_getD ((0 : Int), (0 : Int)) (by omega) fun i hi => hk i (by omega)

abbrev S97 : Set4 := putF ((0 : Int), ((0 : Int), ((0 : Int), (0 : Int)))) 97
def starA : Auto := ([((1 : Int), (((0 : Int), ((0 : Int), ((0 : Int), (0 : Int)))), ((1 : Int), (2 : Int)))), ((0 : Int), (S97, ((0 : Int), (0 : Int)))), ((4 : Int), (((0 : Int), ((0 : Int), ((0 : Int), (0 : Int)))), ((0 : Int), (0 : Int))))], (0 : Int))
def Sp_star (P : Program) : Prop := Fn P "mergelens/mergelenslaw06.star" S_law06_star () fun (d : Auto) _ => d = starA
theorem sp_star (h : Has P F_law06_star) (hP : Sp_Put P) : Sp_star P := by
  refine fn_law06_star h ?_
  unfold W_law06_star
  refine hP.at (by decide) (by decide) fun d hd => ?_
  show ([_, ((0 : Int), (d, ((0 : Int), (0 : Int)))), _], (0 : Int)) = starA
  rw [hd]
  rfl
theorem star_valid : Valid starA := by
  refine ⟨by decide, by decide, by decide, by decide, fun i hi => ?_⟩
  have hi : i < 3 := hi
  have : i = 0 ∨ i = 1 ∨ i = 2 := by omega
  rcases this with rfl | rfl | rfl <;> simp [starA, okState, List.getD_eq_getElem?_getD]
theorem star_acc {s : List UInt8} {i j : Nat} : acc starA s i j ↔ i ≤ j ∧ ∀ k, i ≤ k → k < j → k < s.length ∧ hasF S97 ((s.getD k 0).toNat : Int) = true := by
  constructor
  · rintro ⟨q, h, -⟩
    refine ⟨h.le, ?_⟩
    induction h with
    | start => intro k h1 h2; omega
    | eps _ _ ih => exact ih
    | read h hj r ih =>
      rename_i j0 p q
      intro k h1 h2
      by_cases e : j0 = k
      · subst e
        refine ⟨hj, ?_⟩
        have hp := h.lt star_valid
        have hp : p < 3 := hp
        obtain ⟨r1, r2, _⟩ := r
        have : p = 0 ∨ p = 1 ∨ p = 2 := by omega
        rcases this with rfl | rfl | rfl
        · simp [starA, List.getD_eq_getElem?_getD] at r1
        · exact r2
        · simp [starA, List.getD_eq_getElem?_getD] at r1
      · exact ih k h1 (by omega)
  · rintro ⟨h1, h2⟩
    have h0 : On starA s i j 0 := by
      induction j with
      | zero =>
        have : i = 0 := by omega
        subst this; exact .start
      | succ j ih =>
        by_cases e : i = j + 1
        · subst e; exact .start
        · have h3 := ih (by omega) fun k k1 k2 => h2 k k1 (by omega)
          obtain ⟨h4, h5⟩ := h2 j (by omega) (by omega)
          have h6 : On starA s i j 1 := .eps h3 (.inl ⟨rfl, .inl rfl⟩)
          exact .read h6 h4 ⟨rfl, h5, rfl⟩
    exact ⟨2, .eps h0 (.inl ⟨rfl, .inr rfl⟩), rfl⟩

def Sp_awake06 (P : Program) : Prop := Fn P "mergelens/mergelenslaw06.awake" S_law06_awake () fun (d : Bool) _ => d = true
theorem sp_awake06 (h : Has P F_law06_awake) (hS : Sp_star P) (hAll : Sp_All P) (hW : Sp_Whole P) (hSp : Sp_Spans P) : Sp_awake06 P := by
  refine fn_law06_awake h ?_
  unfold W_law06_awake
  refine Fn.to hS ?_
  rintro (d : Auto) _ rfl
  refine (hAll (starA, [98, 97, 97]) (by simp)).to ?_
  rintro (d3 : List (Int × Int) × Int) _ h3
  refine Fn.to hS ?_
  rintro (d : Auto) _ rfl
  refine (hW (starA, [97, 97]) (by simp)).to ?_
  rintro (d7 : Bool × Int) _ h7
  obtain ⟨a1, a2⟩ := h3.2 star_valid
  obtain ⟨b1, b2⟩ := h7.2 star_valid
  have f97 : hasF S97 97 = true := by decide +kernel
  have f98 : hasF S97 98 = false := by decide +kernel
  have hw : d7.1 = true := by
    rw [b2, star_acc]
    refine ⟨Nat.zero_le _, fun k _ hk => ⟨hk, ?_⟩⟩
    have hk : k < 2 := hk
    have : k = 0 ∨ k = 1 := by omega
    rcases this with rfl | rfl <;> exact f97
  have g0 : hasF S97 ((([98, 97, 97] : List UInt8).getD 0 0).toNat : Int) = false := f98
  have g1 : hasF S97 ((([98, 97, 97] : List UInt8).getD 1 0).toNat : Int) = true := f97
  have g2 : hasF S97 ((([98, 97, 97] : List UInt8).getD 2 0).toNat : Int) = true := f97
  have hl : AllFrom starA [98, 97, 97] 0 [((0 : Int), (0 : Int)), ((1 : Int), (3 : Int)), ((3 : Int), (3 : Int))] := by
    refine .next (i := 0) (j := 0) (by simp) ⟨Nat.le_refl _, by simp, star_acc.2 ⟨Nat.le_refl _, fun k _ hk => by omega⟩, fun _ _ _ _ _ => Nat.zero_le _, fun j' hj => ?_⟩ ?_
    · rcases Nat.eq_zero_or_pos j' with h | h
      · omega
      · have := ((star_acc.1 hj).2 0 (Nat.le_refl _) h).2
        rw [g0] at this; cases this
    rw [if_pos rfl]
    refine .next (i := 1) (j := 3) (by simp) ⟨Nat.le_refl _, by simp, star_acc.2 ⟨by decide, fun k h1 h2 => ?_⟩, fun i' _ h _ _ => h, fun j' hj => ?_⟩ ?_
    · have : k = 1 ∨ k = 2 := by omega
      rcases this with rfl | rfl
      · exact ⟨by simp, g1⟩
      · exact ⟨by simp, g2⟩
    · have := hj.le_len (by simp); simpa using this
    rw [if_neg (by decide)]
    refine .next (i := 3) (j := 3) (by simp) ⟨Nat.le_refl _, by simp, star_acc.2 ⟨Nat.le_refl _, fun k _ hk => by omega⟩, fun i' _ h _ _ => h, fun j' hj => ?_⟩ (.stop (by simp))
    have := hj.le_len (by simp); simpa using this
  have e3 : d3.1 = _ := a2.uniq hl
  refine ⟨fun hc => ?_, fun hc => ?_⟩
  · refine (hSp (d3.1, _) (by rw [e3]; simp)).to ?_
    rintro (d9 : Bool) _ h9
    dsimp only at h9
    show (cond true d9 false) = true
    rw [cond_true, h9, e3]
  · simp [a1, b1, hw] at hc
end Go.VS
