/- What the statements about layer 5 use. -/
import Derived.Test.YtobddjdmgebmgaaKSpClo
set_option linter.unusedVariables false
set_option linter.unusedSimpArgs false
set_option linter.unusedSectionVars false
namespace Go.VS
variable {P : Program}

def Sp_made05 (P : Program) : Prop := ∀ x : List Int × Int, Fn P "mergelens/mergelenslaw05.made" S_law05_made x fun (d : Auto) _ => d = madeF x.1 x.2 7
theorem sp_made05 (h : Has P F_law05_made) (hA : Sp_At P) (hM : Sp_Mod P) (hP : Sp_Put P) : Sp_made05 P := by
  rintro ⟨raw, n⟩
  refine fn_law05_made h ?_
  unfold W_law05_made
  dsimp only
  refine hM.at (by decide) (by decide) ?_
  have hr := modF_range (a := n) (n := 7) (by decide) (by decide)
  rw [w64 (n := 1 + modF n 7) (by omega) (by omega)]
  refine hA.at (by decide) (hM.at (by omega) (by omega) ?_)
  refine JoinW.mid (fun d => d = madeF raw n 7) ?_ fun d hd => hd
  generalize hN : 1 + modF n 7 = N at *
  refine LoopW.of (fun d => 0 ≤ d.1 ∧ d.1 ≤ N ∧ d.2 = ((List.range d.1.toNat).map (madeS raw N), modF (atF raw 0) N)) (fun d => (N - d.1).toNat) ⟨Int.le_refl _, by dsimp only; omega, rfl⟩ ?_
  rintro ⟨i, l, st⟩ ⟨i0, i1, hl⟩
  dsimp only at i0 i1 hl ⊢
  cases hl
  refine ⟨fun hc => JoinW.of ?_, fun hc => ?_⟩
  · have hc := of_decide_eq_true hc
    have e4 : IntKind.i64.wrap (4 * i) = 4 * i := w64 (by omega) (by omega)
    have e1 : IntKind.i64.wrap (1 + 4 * i) = 1 + 4 * i := w64 (by omega) (by omega)
    have e2 : IntKind.i64.wrap (2 + 4 * i) = 2 + 4 * i := w64 (by omega) (by omega)
    have e3 : IntKind.i64.wrap (3 + 4 * i) = 3 + 4 * i := w64 (by omega) (by omega)
    have e5 : IntKind.i64.wrap (4 + 4 * i) = 4 + 4 * i := w64 (by omega) (by omega)
    have e6 : IntKind.i64.wrap (i + 1) = i + 1 := w64 (by omega) (by omega)
    simp only [e4, e1, e2, e3, e5, e6]
    refine hA.at (by omega) (hM.at (by decide) (by decide) (hA.at (by omega) (hM.at (by omega) (by omega) (hA.at (by omega) (hM.at (by omega) (by omega) ?_)))))
    have em := madeS_eq raw N i0
    refine JoinW.mid (fun d => d = madeS raw N i.toNat) ?_ ?_
    · rw [em]
      have tail := madeTail hM hP (a := atF raw (4 + 4 * i)) (k := modF (atF raw (1 + 4 * i)) 5) (x := modF (atF raw (2 + 4 * i)) N) (y := modF (atF raw (3 + 4 * i)) N)
      exact ⟨⟨hA.at (by omega) ⟨tail, trivial⟩, trivial⟩, ⟨hA.at (by omega) ⟨⟨tail, trivial⟩, ⟨tail, trivial⟩⟩, trivial⟩⟩
    · rintro x rfl
      refine ⟨?_, ⟨by omega, by omega, ?_⟩, by omega⟩
      · simp only [List.length_map, List.length_range, List.length_cons, List.length_nil]; omega
      · rw [show (i + 1).toNat = i.toNat + 1 by omega, List.range_succ, List.map_append]
        rfl
  · have hc := of_decide_eq_false hc
    have : i = N := by omega
    subst this
    unfold madeF
    rw [hN]

end Go.VS
