/- A machine's threads: one added with all that it becomes. -/
import Derived.Test.YtobddjdmgebmgaaKSpRefs
set_option linter.unusedVariables false
set_option linter.unusedSimpArgs false
set_option linter.unusedSectionVars false
namespace Go.VS
variable {P : Program}

def stepsF (x : State) (st en : Bool) : List Int :=
  if x.1 = 1 then [x.2.2.1, x.2.2.2] else if x.1 = 2 then (if st then [x.2.2.1] else []) else if x.1 = 3 then (if en then [x.2.2.1] else []) else []
theorem stepsF_len (x : State) (st en : Bool) : (stepsF x st en).length ≤ 2 := by
  unfold stepsF
  split
  · simp
  · split
    · split <;> simp
    · split
      · split <;> simp
      · simp
theorem stepsF_eps {A : List State} (hA : OkL A) {i : Nat} (hi : i < A.length) (st en : Bool) : (∀ q ∈ stepsF (A.getD i zState) st en, 0 ≤ q ∧ q < A.length ∧ epsR A st en i q.toNat) ∧ ∀ j, epsR A st en i j → (j : Int) ∈ stepsF (A.getD i zState) st en := by
  obtain ⟨h1, h2, h3, h4⟩ := hA i hi
  unfold stepsF epsR
  generalize A.getD i zState = x at h1 h2 h3 h4 ⊢
  obtain ⟨k, set, nx, ot⟩ := x
  dsimp only at h1 h2 h3 h4 ⊢
  constructor
  · intro q hq
    split at hq
    · rename_i hk
      simp at hq
      rcases hq with rfl | rfl
      · have := h3 (by omega); exact ⟨this.1, this.2, .inl ⟨hk, .inl rfl⟩⟩
      · have := h4 hk; exact ⟨this.1, this.2, .inl ⟨hk, .inr rfl⟩⟩
    · split at hq
      · rename_i hk
        split at hq
        · rename_i hs; simp at hq; subst hq; have := h3 (by omega); exact ⟨this.1, this.2, .inr (.inl ⟨hk, hs, rfl⟩)⟩
        · simp at hq
      · split at hq
        · rename_i hk
          split at hq
          · rename_i hs; simp at hq; subst hq; have := h3 (by omega); exact ⟨this.1, this.2, .inr (.inr ⟨hk, hs, rfl⟩)⟩
          · simp at hq
        · simp at hq
  · rintro j (⟨hk, rfl | rfl⟩ | ⟨hk, hs, rfl⟩ | ⟨hk, hs, rfl⟩)
    · have := h3 (by omega); simp [hk]; omega
    · have := h4 hk; simp [hk]; omega
    · have := h3 (by omega); simp [hk, hs]; omega
    · have := h3 (by omega); simp [hk, hs]; omega

def Sp_Steps (P : Program) : Prop := ∀ x : State × (Bool × Bool), Fn P "mergelens/automaton.Steps" S_automaton_Steps x fun (d : List Int) _ => d = stepsF x.1 x.2.1 x.2.2
theorem sp_Steps (h : Has P F_automaton_Steps) : Sp_Steps P := by
  rintro ⟨⟨k, set, nx, ot⟩, st, en⟩
  refine fn_automaton_Steps h ?_
  unfold W_automaton_Steps stepsF
  dsimp only
  refine JoinW.of ⟨fun h1 => ?_, fun h1 => JoinW.of ⟨fun h2 => ⟨fun h3 => ?_, fun h3 => ?_⟩, fun h2 => JoinW.of ⟨fun h3 => ⟨fun h4 => ?_, fun h4 => ?_⟩, fun h3 => ?_⟩⟩⟩ <;> simp_all

end Go.VS
