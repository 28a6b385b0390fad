/- What the statements about layer 5 use. -/
import Derived.Test.YtobddjdmgebmgaaKSpClo
set_option linter.unusedVariables false
set_option linter.unusedSimpArgs false
set_option linter.unusedSectionVars false
namespace Go.VS
variable {P : Program}

def Sp_Ints (P : Program) : Prop := ∀ x : List Int × List Int, x.1.length ≤ 140737488351232 → Fn P "mergelens/mergelensgen.Ints" S_gen_Ints x fun (d : Bool) _ => d = true ↔ x.1 = x.2
theorem sp_Ints (h : Has P F_gen_Ints) : Sp_Ints P := by
  rintro ⟨l, m⟩ hl
  refine fn_gen_Ints h ?_
  unfold W_gen_Ints
  dsimp only at hl ⊢
  refine ⟨fun hc => ?_, fun hc => ?_⟩
  · simp at hc
    exact ⟨fun h => (nomatch h), fun h => by rw [h] at hc; exact (hc rfl).elim⟩
  simp at hc
  refine JoinW.mid (fun _ => l = m) ?_ fun d hd => ⟨fun _ => hd, fun _ => rfl⟩
  refine LoopW.of (fun d => 0 ≤ d.2 ∧ d.2 ≤ l.length ∧ ∀ k : Nat, (k : Int) < d.2 → l.getD k 0 = m.getD k 0) (fun d => (l.length - d.2).toNat) ⟨Int.le_refl _, by dsimp only; omega, fun k hk => by dsimp only at hk; omega⟩ ?_
  rintro ⟨u, k⟩ ⟨k0, k1, hk⟩
  dsimp only at k0 k1 hk ⊢
  refine ⟨fun hb => JoinW.of ?_, fun hb => ?_⟩
  · have hb := of_decide_eq_true hb
    rw [w64 (by omega) (by omega)]
    refine ⟨⟨k0, hb⟩, by omega, ⟨k0, by omega⟩, by omega, fun he => ?_, fun he => ?_⟩
    · simp [-List.getD_eq_getElem?_getD] at he
      exact ⟨fun h => (nomatch h), fun h => by subst h; simp at he⟩
    · simp [-List.getD_eq_getElem?_getD] at he
      refine ⟨⟨by omega, by omega, fun k' hk' => ?_⟩, by omega⟩
      by_cases e : k' = k.toNat
      · subst e; exact he
      · exact hk k' (by omega)
  · have hb := of_decide_eq_false hb
    exact ext_getD 0 (by omega) fun i hi => hk i (by omega)

def Sp_same (P : Program) : Prop := ∀ x : Auto, x.1.length ≤ 140737488351232 → Fn P "mergelens/mergelenslaw05.same" S_law05_same (x, x) fun (d : Bool) _ => d = true
theorem sp_same (h : Has P F_law05_same) : Sp_same P := by
  rintro ⟨A, s⟩ hl
  dsimp only at hl
  refine fn_law05_same h ?_
  unfold W_law05_same
  dsimp only
  refine ⟨fun hc => by simp at hc, fun _ => ?_⟩
  refine JoinW.mid (fun _ => True) ?_ fun _ _ => rfl
  refine LoopW.of (fun d => 0 ≤ d.2 ∧ d.2 ≤ A.length) (fun d => (A.length - d.2).toNat) ⟨Int.le_refl _, by dsimp only; omega⟩ ?_
  rintro ⟨u, k⟩ ⟨k0, k1⟩
  dsimp only at k0 k1 ⊢
  refine ⟨fun hb => JoinW.of ?_, fun hb => trivial⟩
  have hb := of_decide_eq_true hb
  rw [w64 (by omega) (by omega)]
  exact ⟨⟨k0, hb⟩, by omega, ⟨k0, hb⟩, by omega, fun hc => by simp at hc, fun _ => ⟨⟨by omega, by omega⟩, by omega⟩⟩

def Sp_made05 (P : Program) : Prop := ∀ x : List Int × Int, Fn P "mergelens/mergelenslaw05.made" S_law05_made x fun (d : Auto) _ => d = madeF x.1 x.2 7
theorem sp_made05 (h : Has P F_law05_made) (hA : Sp_At P) (hM : Sp_Mod P) (hP : Sp_Put P) : Sp_made05 P := by
  rintro ⟨raw, n⟩
  refine fn_law05_made h ?_
  unfold W_law05_made
  dsimp only
  refine hM.at (by decide) (by decide) ?_
  have hr := modF_range (a := n) (n := 7) (by decide) (by decide)
  rw [w64 (n := 1 + modF n 7) (by omega) (by omega)]
  refine hA.at (by decide) (hM.at (by omega) (by omega) ?_)
  refine JoinW.mid (fun d => d = madeF raw n 7) ?_ fun d hd => hd
  generalize hN : 1 + modF n 7 = N at *
  refine LoopW.of (fun d => 0 ≤ d.1 ∧ d.1 ≤ N ∧ d.2 = ((List.range d.1.toNat).map (madeS raw N), modF (atF raw 0) N)) (fun d => (N - d.1).toNat) ⟨Int.le_refl _, by dsimp only; omega, rfl⟩ ?_
  rintro ⟨i, l, st⟩ ⟨i0, i1, hl⟩
  dsimp only at i0 i1 hl ⊢
  cases hl
  refine ⟨fun hc => JoinW.of ?_, fun hc => ?_⟩
  · have hc := of_decide_eq_true hc
    have e4 : IntKind.i64.wrap (4 * i) = 4 * i := w64 (by omega) (by omega)
    have e1 : IntKind.i64.wrap (1 + 4 * i) = 1 + 4 * i := w64 (by omega) (by omega)
    have e2 : IntKind.i64.wrap (2 + 4 * i) = 2 + 4 * i := w64 (by omega) (by omega)
    have e3 : IntKind.i64.wrap (3 + 4 * i) = 3 + 4 * i := w64 (by omega) (by omega)
    have e5 : IntKind.i64.wrap (4 + 4 * i) = 4 + 4 * i := w64 (by omega) (by omega)
    have e6 : IntKind.i64.wrap (i + 1) = i + 1 := w64 (by omega) (by omega)
    simp only [e4, e1, e2, e3, e5, e6]
    refine hA.at (by omega) (hM.at (by decide) (by decide) (hA.at (by omega) (hM.at (by omega) (by omega) (hA.at (by omega) (hM.at (by omega) (by omega) ?_)))))
    have em := madeS_eq raw N i0
    refine JoinW.mid (fun d => d = madeS raw N i.toNat) ?_ ?_
    · rw [em]
      have tail := madeTail hM hP (a := atF raw (4 + 4 * i)) (k := modF (atF raw (1 + 4 * i)) 5) (x := modF (atF raw (2 + 4 * i)) N) (y := modF (atF raw (3 + 4 * i)) N)
      exact ⟨⟨hA.at (by omega) ⟨tail, trivial⟩, trivial⟩, ⟨hA.at (by omega) ⟨⟨tail, trivial⟩, ⟨tail, trivial⟩⟩, trivial⟩⟩
    · rintro x rfl
      refine ⟨?_, ⟨by omega, by omega, ?_⟩, by omega⟩
      · simp only [List.length_map, List.length_range, List.length_cons, List.length_nil]; omega
      · rw [show (i + 1).toNat = i.toNat + 1 by omega, List.range_succ, List.map_append]
        rfl
  · have hc := of_decide_eq_false hc
    have : i = N := by omega
    subst this
    unfold madeF
    rw [hN]

theorem sp_AutomatonCloses (h : Has P F_law05_AutomatonCloses) (hMd : Sp_made05 P) (hCl : Sp_Closure P) (hRC : Sp_RClosure P) (hI : Sp_Ints P) (hS : Sp_same P) (hM : Sp_Mod P) (hAw : Sp_awake05 P) (x : List Int × (Int × (List Int × (Bool × (Bool × Bool))))) :
    Fn P "mergelens/mergelenslaw05.AutomatonCloses" S_law05_AutomatonCloses x fun (d : Bool) _ => d = true := by
  obtain ⟨raw, n, fr, fit, st, en⟩ := x
  refine fn_law05_AutomatonCloses h ?_
  unfold W_law05_AutomatonCloses
  dsimp only
  refine ⟨fun _ => Fn.to hAw fun (d : Bool) _ hd => hd, fun hc => ?_⟩
  have hc := of_decide_eq_false hc
  refine (hMd (raw, n)).to ?_
  rintro (a : Auto) _ ha
  have ha : a = madeF raw n 7 := ha
  have hv : Valid a := by rw [ha]; exact madeF_valid raw n (by decide) (by decide)
  have hlo := hv.lo; have hhi := hv.hi
  refine ⟨by simp; omega, ?_⟩
  refine JoinW.mid (fun l => l.length ≤ 8) ?_ ?_
  · refine LoopW.of (fun d => 0 ≤ d.2 ∧ d.2 ≤ 8 ∧ d.1.length ≤ 8) (fun d => (8 - d.2).toNat) ⟨Int.le_refl _, by dsimp only; omega, by simp; omega⟩ ?_
    rintro ⟨l, i⟩ ⟨i0, i1, hl⟩
    dsimp only at i0 i1 hl ⊢
    refine ⟨fun hb => JoinW.of (JoinW.of ?_), fun hb => hl⟩
    have hb : i < (l.length : Int) := by
      rw [Bool.cond_eq_ite] at hb
      split at hb
      · rename_i h; exact of_decide_eq_true h
      · cases hb
    rw [w64 (by omega) (by omega)]
    refine ⟨⟨i0, hb⟩, by omega, hM.at (by omega) (by omega) ⟨⟨i0, hb⟩, ⟨by omega, ⟨by omega, by omega, by simpa using hl⟩, by omega⟩, trivial⟩, trivial⟩
  · intro l hl
    refine ⟨by simp; omega, ?_⟩
    refine (hCl (a, (l, (st, en))) (by dsimp only; omega)).to ?_
    rintro (d : List Int × Int) _ hd
    refine (hMd (raw, n)).to ?_
    rintro (a2 : Auto) _ ha2
    have ha2 : a2 = a := ha2.trans ha.symm
    subst ha2
    refine (hRC (a2, (l, (st, en))) (by dsimp only; omega)).to ?_
    rintro (e : List Int × Int) _ he
    dsimp only at hd he
    obtain rfl := hd.uniq he
    have hdl : d.1.length ≤ 8000 := by
      obtain ⟨h1, h2⟩ := hd.2 hv
      by_cases hx : ∃ k ∈ l, k < 0 ∨ (a2.1.length : Int) ≤ k
      · rw [h1 hx]; simp
      · have hx : ∀ k ∈ l, 0 ≤ k ∧ k < (a2.1.length : Int) := fun k hk => by
          refine ⟨?_, ?_⟩
          · rcases Int.lt_or_le k 0 with h | h
            · exact absurd ⟨k, hk, .inl h⟩ hx
            · exact h
          · rcases Int.lt_or_le k a2.1.length with h | h
            · exact h
            · exact absurd ⟨k, hk, .inr h⟩ hx
        obtain ⟨_, out, _, _, e⟩ := h2 hx
        rw [e]; exact Nat.le_trans (ascL_len _ _) hhi
    have tail : ∀ (J : Bool → Prop), J true → Fn P "mergelens/mergelenslaw05.made" S_law05_made (raw, n) (fun (d28 : Auto) (e29 : Unit) => (Fn P "mergelens/mergelenslaw05.same" S_law05_same ((a2.1, a2.2), (d28.1, d28.2)) (fun (d30 : Bool) (e31 : Unit) => (JoinW (D := Bool) (fun J32 => (((cond true d30 false) = true → Fn P "mergelens/mergelenslaw05.awake" S_law05_awake () (fun (d33 : Bool) _ => J32 d33)) ∧ (((cond true d30 false) = false → J32 false) ∧ True))) (fun d34 => (J (cond (cond true d30 false) d34 false)) ∧ (True))) ∧ (True))) ∧ (True)) := by
      intro J hJ
      refine (hMd (raw, n)).to ?_
      rintro (a3 : Auto) _ ha3
      have ha3 : a3 = a2 := ha3.trans ha.symm
      subst ha3
      refine ⟨(hS a3 (by omega)).to ?_, trivial⟩
      rintro (b : Bool) _ hb
      have hb : b = true := hb
      subst hb
      refine ⟨JoinW.mid (fun d => d = true) ⟨fun _ => Fn.to hAw fun (d : Bool) _ hd => hd, fun hc => by simp at hc, trivial⟩ ?_, trivial⟩
      rintro b rfl
      exact ⟨hJ, trivial⟩
    refine JoinW.mid (fun d => d = true) ⟨(hI (d.1, d.1) (by dsimp only; omega)).to ?_, trivial⟩ fun d hd => hd
    rintro (b : Bool) _ hb
    have hb : b = true := hb.2 rfl
    subst hb
    refine ⟨JoinW.mid (fun d => d = true) ⟨fun _ => (hI (l, [] ++ l) (by dsimp only; omega)).to ?_, fun hc => by simp at hc, trivial⟩ ?_, trivial⟩
    · rintro (b : Bool) _ hb
      exact hb.2 rfl
    · rintro b rfl
      refine ⟨fun _ => ⟨⟨tail (fun d => d = true) rfl, trivial⟩, tail (fun d => d = true) rfl, trivial⟩, fun hc => by simp at hc⟩
end Go.VS
