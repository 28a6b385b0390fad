/- The document's search. -/
import Derived.Test.YtobddjdmgebmgaaKSpEnds
set_option linter.unusedVariables false
set_option linter.unusedSimpArgs false
set_option linter.unusedSectionVars false
namespace Go.VS
variable {P : Program}

/-- The first match from an offset on, the longest of several; or none. -/
structure Fnd (a : Auto) (s : List UInt8) (p i j : Nat) : Prop where
  ge : p ≤ i
  le : i ≤ s.length
  is : acc a s i j
  first : ∀ i' j', p ≤ i' → acc a s i' j' → i' ≤ s.length → i ≤ i'
  long : ∀ j', acc a s i j' → j' ≤ j
def NotFnd (a : Auto) (s : List UInt8) (p : Nat) : Prop := ∀ i j, p ≤ i → i ≤ s.length → ¬ acc a s i j
theorem Fnd.not {a : Auto} {s : List UInt8} {p i j : Nat} (h : Fnd a s p i j) : ¬ NotFnd a s p := fun n => n i j h.ge h.le h.is
theorem Fnd.uniq {a : Auto} {s : List UInt8} {p i j i' j' : Nat} (h : Fnd a s p i j) (k : Fnd a s p i' j') : i = i' ∧ j = j' := by
  have e : i = i' := Nat.le_antisymm (h.first _ _ k.ge k.is k.le) (k.first _ _ h.ge h.is h.le)
  subst e
  exact ⟨rfl, Nat.le_antisymm (k.long _ h.is) (h.long _ k.is)⟩
/-- What is found is said so. -/
def FndIs (a : Auto) (s : List UInt8) (p : Nat) (d : Int × Int) (ok : Bool) : Prop := (ok = true ∧ ∃ i j : Nat, d = ((i : Int), (j : Int)) ∧ Fnd a s p i j) ∨ (ok = false ∧ d = (0, 0) ∧ NotFnd a s p)
theorem FndIs.uniq {a : Auto} {s : List UInt8} {p : Nat} {d d' : Int × Int} {ok ok' : Bool} (h : FndIs a s p d ok) (k : FndIs a s p d' ok') : d = d' ∧ ok = ok' := by
  rcases h with ⟨rfl, i, j, rfl, h⟩ | ⟨rfl, rfl, h⟩ <;> rcases k with ⟨rfl, i', j', rfl, k⟩ | ⟨rfl, rfl, k⟩
  · obtain ⟨rfl, rfl⟩ := h.uniq k; exact ⟨rfl, rfl⟩
  · exact (h.not k).elim
  · exact (k.not h).elim
  · exact ⟨rfl, rfl⟩

abbrev FindIn := Auto × (List UInt8 × Int)
/-- What both Finds answer. -/
def FindPost (x : FindIn) (d : (Int × Int) × (Bool × Int)) : Prop :=
  (¬ Valid x.1 → d = ((0, 0), (false, 2))) ∧ (Valid x.1 → (¬ (0 ≤ x.2.2 ∧ x.2.2 ≤ x.2.1.length) → d = ((0, 0), (false, 3))) ∧ ((0 ≤ x.2.2 ∧ x.2.2 ≤ x.2.1.length) → d.2.2 = 0 ∧ FndIs x.1 x.2.1 x.2.2.toNat d.1 d.2.1))
theorem FindPost.uniq {x : FindIn} {d d' : (Int × Int) × (Bool × Int)} (h : FindPost x d) (k : FindPost x d') : d = d' := by
  by_cases v : Valid x.1
  · by_cases r : 0 ≤ x.2.2 ∧ x.2.2 ≤ x.2.1.length
    · obtain ⟨h1, h2⟩ := (h.2 v).2 r
      obtain ⟨k1, k2⟩ := (k.2 v).2 r
      obtain ⟨e1, e2⟩ := h2.uniq k2
      obtain ⟨d1, d2, d3⟩ := d
      obtain ⟨d1', d2', d3'⟩ := d'
      dsimp only at h1 k1 e1 e2
      subst h1 k1 e1 e2
      rfl
    · rw [(h.2 v).1 r, (k.2 v).1 r]
  · rw [h.1 v, k.1 v]

def Sp_RFind (P : Program) : Prop := ∀ x : FindIn, x.2.1.length ≤ 140737488351232 → Fn P "mergelens/mergelensref06.Find" S_ref06_Find x fun (d : (Int × Int) × (Bool × Int)) _ => FindPost x d
theorem sp_RFind (h : Has P F_ref06_Find) (hC : Sp_RCheck P) (hE : Sp_Ends P) : Sp_RFind P := by
  rintro ⟨a, s, p⟩ hs
  dsimp only at hs ⊢
  refine fn_ref06_Find h ?_
  unfold W_ref06_Find
  dsimp only
  refine (hC a).to ?_
  rintro (e : Int) _ ⟨c1, c2⟩
  refine ⟨fun hb => ?_, fun hb => ?_⟩
  · have hv : ¬ Valid a := fun v => by rw [c1 v] at hb; simp at hb
    exact ⟨fun _ => rfl, fun v => (hv v).elim⟩
  have hv : Valid a := Classical.byContradiction fun v => by rw [c2 v] at hb; simp at hb
  have fv : ∀ {d : (Int × Int) × (Bool × Int)}, ((¬ (0 ≤ p ∧ p ≤ s.length) → d = ((0, 0), (false, 3))) ∧ ((0 ≤ p ∧ p ≤ s.length) → d.2.2 = 0 ∧ FndIs a s p.toNat d.1 d.2.1)) → FindPost (a, s, p) d := fun h => ⟨fun n => (n hv).elim, fun _ => h⟩
  refine ⟨fun hr => fv ⟨fun _ => rfl, fun h => ?_⟩, fun hr => ?_⟩
  · exfalso; simp at hr; omega
  simp at hr
  refine JoinW.mid (fun _ => NotFnd a s p.toNat) ?_ fun d hd => fv ⟨fun h => ?_, fun _ => ⟨rfl, .inr ⟨rfl, rfl, hd⟩⟩⟩
  · refine LoopW.of (fun d => p ≤ d.2.2.1 ∧ d.2.2.1 ≤ s.length + 1 ∧ ∀ i j : Nat, p ≤ i → (i : Int) < d.2.2.1 → ¬ acc a s i j) (fun d => (s.length + 1 - d.2.2.1).toNat) ⟨Int.le_refl _, by dsimp only; omega, fun i j h1 h2 => by dsimp only at h2; omega⟩ ?_
    rintro ⟨u1, u2, i, u3, u4⟩ ⟨i0, i1, hi⟩
    dsimp only at i0 i1 hi ⊢
    refine ⟨fun hc => JoinW.of ?_, fun hc => ?_⟩
    · have hc := of_decide_eq_true hc
      have ei : IntKind.i64.wrap (i + 1) = i + 1 := w64 (by omega) (by omega)
      rw [ei]
      refine (hE (a, s, i) hv hs (by dsimp only; omega) hc).to ?_
      rintro (d9 : List Bool) _ ⟨l9, h9⟩
      dsimp only at l9 h9 ⊢
      refine JoinW.mid (fun _ => ∀ j, ¬ acc a s i.toNat j) ?_ ?_
      · refine LoopW.of (fun d => i - 1 ≤ d.2.2.1 ∧ d.2.2.1 ≤ s.length ∧ ∀ j : Nat, d.2.2.1 < (j : Int) → ¬ acc a s i.toNat j) (fun d => (d.2.2.1 + 1 - i).toNat) ⟨by dsimp only; omega, Int.le_refl _, fun j h1 h2 => ?_⟩ ?_
        · have := h2.le_len (by omega)
          dsimp only at h1
          omega
        · rintro ⟨t1, t2, j, t3, t4⟩ ⟨j0, j1, hj⟩
          dsimp only at j0 j1 hj ⊢
          refine ⟨fun hc2 => JoinW.of ?_, fun hc2 => ?_⟩
          · have hc2 := of_decide_eq_true hc2
            refine ⟨⟨by omega, by omega⟩, by omega, fun hb2 => ?_, fun hb2 => ?_⟩
            · refine fv ⟨fun h => by omega, fun _ => ⟨rfl, .inl ⟨rfl, i.toNat, j.toNat, by dsimp only; rw [Int.toNat_of_nonneg (by omega), Int.toNat_of_nonneg (by omega)], ?_⟩⟩⟩
              refine ⟨by omega, by omega, (h9 _).1 hb2, fun i' j' h1 h2 _ => ?_, fun j' h1 => ?_⟩
              · apply Classical.byContradiction
                intro hlt
                exact hi i' j' (by omega) (by omega) h2
              · apply Classical.byContradiction
                intro hlt
                exact hj j' (by omega) h1
            · have ej : IntKind.i64.wrap (j - 1) = j - 1 := w64 (by omega) (by omega)
              rw [ej]
              refine ⟨⟨by omega, by omega, fun j' h1 h2 => ?_⟩, by omega⟩
              by_cases e : j' = j.toNat
              · subst e
                rw [(h9 _).2 h2] at hb2; cases hb2
              · exact hj j' (by omega) h2
          · have hc2 := of_decide_eq_false hc2
            intro j' h1
            exact hj j' (by have := h1.le; omega) h1
      · intro d hd
        refine ⟨⟨by omega, by omega, fun i' j' h1 h2 h3 => ?_⟩, by omega⟩
        by_cases e : i' = i.toNat
        · subst e; exact hd j' h3
        · exact hi i' j' h1 (by omega) h3
    · have hc := of_decide_eq_false hc
      intro i' j' h1 h2 h3
      exact hi i' j' (by omega) (by omega) h3
  · omega
end Go.VS
