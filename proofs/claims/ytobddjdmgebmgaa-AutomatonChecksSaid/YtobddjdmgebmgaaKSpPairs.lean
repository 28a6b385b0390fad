/- The document's tables of a language. -/
import Derived.Test.YtobddjdmgebmgaaKSpBuild
set_option linter.unusedVariables false
set_option linter.unusedSimpArgs false
set_option linter.unusedSectionVars false
namespace Go.VS
variable {P : Program}

/-- A table of pairs below n. -/
structure TabOf (T : List (List Bool)) (n : Nat) (R : Nat → Nat → Prop) : Prop where
  len : T.length = n
  row : ∀ i, i < n → (T.getD i []).length = n
  at_ : ∀ i j, i < n → j < n → ((T.getD i []).getD j false = true ↔ R i j)
theorem TabOf.congr {T : List (List Bool)} {n : Nat} {R S : Nat → Nat → Prop} (h : TabOf T n R) (e : ∀ i j, i < n → j < n → (R i j ↔ S i j)) : TabOf T n S :=
  ⟨h.len, h.row, fun i j hi hj => (h.at_ i j hi hj).trans (e i j hi hj)⟩
/-- Row after row. -/
structure RowsOf (T : List (List Bool)) (k n : Nat) (R : Nat → Nat → Prop) : Prop where
  len : T.length = k
  row : ∀ i, i < k → (T.getD i []).length = n
  at_ : ∀ i j, i < k → j < n → ((T.getD i []).getD j false = true ↔ R i j)
theorem RowsOf.nil {n : Nat} {R : Nat → Nat → Prop} : RowsOf [] 0 n R := ⟨rfl, fun i hi => by omega, fun i j hi => by omega⟩

/-! Languages go forward. -/
def OrdR (R : RelT) : Prop := ∀ s i j, R s i j → i ≤ j ∧ (i ≤ s.length → j ≤ s.length)
theorem OrdR.id : OrdR idR := fun s i j h => by cases h; exact ⟨Nat.le_refl _, fun h => h⟩
theorem OrdR.comp {R S : RelT} (h1 : OrdR R) (h2 : OrdR S) : OrdR (compR R S) := by
  rintro s i j ⟨m, a, b⟩
  have := h1 _ _ _ a; have := h2 _ _ _ b
  exact ⟨by omega, fun h => by omega⟩
theorem OrdR.pow {R : RelT} (h : OrdR R) (n : Nat) : OrdR (powR R n) := by
  induction n with
  | zero => exact .id
  | succ n ih => exact h.comp ih
theorem OrdR.seq {R : Nat → RelT} {l : List Int} (h : ∀ k ∈ l, OrdR (R k.toNat)) : OrdR (seqL R l) := by
  induction l with
  | nil => exact .id
  | cons k l ih => exact (h k (by simp)).comp (ih fun k' hk' => h k' (by simp [hk']))
theorem OrdR.alt {R : Nat → RelT} {l : List Int} (h : ∀ k ∈ l, OrdR (R k.toNat)) : OrdR (altL R l) := by
  induction l with
  | nil => intro s i j h; exact h.elim
  | cons k l ih =>
    rintro s i j (ha | ha)
    · exact h k (by simp) _ _ _ ha
    · exact ih (fun k' hk' => h k' (by simp [hk'])) _ _ _ ha
theorem OrdR.node {n : Node} {i : Nat} (ho : okNode n i) {R : Nat → RelT} (h : ∀ k, k < i → OrdR (R k)) : OrdR (nodeR n R) := by
  have hm : ∀ k ∈ n.2.2.2.2, OrdR (R k.toNat) := fun k hk => h _ (by have := ho.mem hk; omega)
  unfold nodeR
  split
  · rintro s i j ⟨h1, _, rfl⟩; exact ⟨by omega, fun _ => by omega⟩
  split
  · rintro s i j ⟨rfl, rfl⟩; exact ⟨Nat.le_refl _, fun _ => Nat.zero_le _⟩
  split
  · rintro s i j ⟨rfl, rfl⟩; exact ⟨Nat.le_refl _, fun h => h⟩
  split
  · exact .seq hm
  split
  · exact .alt hm
  split
  · rename_i h6
    have := ho.2.2.2.2.2 h6
    have := ho.1 0 (by omega)
    rintro s i j ⟨r, _, _, hr⟩
    exact (h _ (by omega)).pow r _ _ _ hr
  · exact .id
theorem OrdR.lang {l : List Node} (v : NValid l) {k : Nat} (h : k < l.length) : OrdR (Lang l k) := by
  induction k using Nat.strongRecOn with
  | ind k ih =>
    rw [lang_at v h]
    exact OrdR.node (v.ok k h) fun m hm => ih m hm (by omega)
theorem TabOf.set {T : List (List Bool)} {n : Nat} {R : Nat → Nat → Prop} (h : TabOf T n R) {i j : Nat} (hi : i < n) (hj : j < n) (b : Bool) : TabOf (T.set i ((T.getD i []).set j b)) n fun i' j' => if i' = i ∧ j' = j then b = true else R i' j' := by
  have hl := h.len
  have hr := h.row i hi
  refine ⟨by simp [hl], fun i' hi' => ?_, fun i' j' hi' hj' => ?_⟩
  · rw [getD_set (by omega)]
    split
    · simpa using hr
    · exact h.row i' hi'
  · rw [getD_set (by omega)]
    split
    · rename_i e
      subst e
      rw [getD_set (by omega)]
      split
      · rename_i e; subst e; simp
      · rename_i e
        rw [if_neg (fun h => e h.2.symm)]
        exact h.at_ i j' hi' hj'
    · rename_i e
      rw [if_neg (fun h => e h.1.symm)]
      exact h.at_ i' j' hi' hj'
end Go.VS
