/- Trees made of raw numbers; lists that are compared. -/
import Derived.Test.YtdnomijflodcgaaDoorKSpFil
set_option linter.unusedVariables false
set_option linter.unusedSimpArgs false
namespace Go.VS
variable {P : Pg}
def HY (P : Pg) : Prop := ∀ x : List Int × (Int × Int), (0 ≤ x.2.1 ∧ x.2.1 ≤ 100000) → (0 ≤ x.2.2 ∧ x.2.2 ≤ 100) → Fn P Vm CI x fun (d : List AA) _ => d = GY x.1 x.2.1 x.2.2
theorem Aam (h : Has P Ht) (hA : KV P) (hB : OM P) : HY P := by
 rintro ⟨raw, fr, lines⟩ ⟨f0, f1⟩ ⟨l0, l1⟩
 dsimp only at f0 f1 l0 l1
 refine Si h ?_
 unfold NK
 dsimp only
 refine Ai.mid (fun d => d = GY raw fr lines) ?_ fun _ h => h
 have hlen4 : (Bu : List Bs).length = 4 := rfl
 unfold GY
 have hsl : ∀ k, (Og raw fr lines k).length ≤ k := fun k => by unfold Og; exact Nat.le_trans (List.length_filterMap_le ..) (by rw [List.length_range]; exact Nat.le_refl _)
 refine Bl.of (fun q => (0 ≤ q.2 ∧ q.2 ≤ 4) ∧ q.1 = Og raw fr lines q.2.toNat) (fun q => (4 - q.2).toNat) ⟨⟨Int.le_refl _, by decide⟩, rfl⟩ ?_
 rintro ⟨o, i⟩ ⟨⟨i0, i1⟩, ho⟩
 dsimp only at i0 i1 ho ⊢
 refine ⟨fun hi => ?_, fun hi => by have hi := of_decide_eq_false hi; rw [ho, show i = 4 by omega]; rfl⟩
 have hi := of_decide_eq_true hi
 have hnx := X1 raw fr lines i.toNat
 have hol := hsl i.toNat
 rw [← ho] at hnx hol
 unfold X0 at hnx
 rw [show ((i.toNat : Nat) : Int) = i by omega] at hnx
 have hr := XH raw (fr + i)
 have hi4 : i < ((List.length (Bu : List Bs) : Nat) : Int) := by rw [hlen4]; omega
 have hi5 : i.toNat < List.length (Bu : List Bs) := by rw [hlen4]; omega
 have hsz : ∀ v : Bs, (o.length + ([(Bu.getD i.toNat [], v)] : List AA).length) * 32 ≤ 140737488355328 := fun v => by
  simp only [List.length_cons, List.length_nil]; omega
 refine Ai.mid (fun d => d = Og raw fr lines (i.toNat + 1)) ?_ fun d hd => ?_
 ·rw [w64 (n := fr + i) (by omega) (by omega), w64 (n := fr + 10) (by omega) (by omega), w64 (n := 20 * i) (by omega) (by omega), w64 (n := fr + 10 + 20 * i) (by omega) (by omega)]
  refine hA.at (by omega) ⟨by decide, ?_⟩
  rw [Int.tmod_eq_emod_of_nonneg hr.1]
  refine Ai.mid (fun d => d = Og raw fr lines (i.toNat + 1)) ⟨fun hc => ?_, fun hc => ?_⟩ fun _ h => h
  ·have hc := of_decide_eq_true hc
   rw [if_pos hc] at hnx
   have hbl : ∀ {K : Bs → Unit → Prop}, K (LX raw (fr + 10 + 20 * i) lines 4) () → Fn P zS9 Dg (raw, (fr + 10 + 20 * i, (lines, (4 : Int)))) K := fun {K} hk => (hB (raw, (fr + 10 + 20 * i, (lines, (4 : Int)))) ⟨by dsimp only; omega, by dsimp only; omega⟩ ⟨l0, l1⟩ ⟨(by decide : (1 : Int) ≤ 4), (by decide : (4 : Int) ≤ 100000)⟩).to fun (d : Bs) _ hd => by
    have hd : d = _ := hd
    subst hd
    exact hk
   refine Ai.mid (fun d => d = Og raw fr lines (i.toNat + 1)) (by repeat' (first | exact trivial | exact i0 | exact hi4 | exact hi5 | exact hsz _ | exact hnx.symm | apply And.intro | (refine hbl ?_))) fun _ h => h
  ·have hc := of_decide_eq_false hc
   rw [if_neg hc] at hnx
   rw [hnx]
   exact (List.append_nil o).symm
 ·subst hd
  rw [w64 (by omega) (by omega)]
  exact ⟨⟨⟨by omega, by omega⟩, by rw [show (i + 1).toNat = i.toNat + 1 by omega]⟩, by omega⟩
theorem HY.at (h : HY P) {raw : List Int} {fr lines : Int} (f0 : 0 ≤ fr) (f1 : fr ≤ 100000) (l0 : 0 ≤ lines) (l1 : lines ≤ 100) {K : List AA → Unit → Prop} (hk : K (GY raw fr lines) ()) : Fn P Vm CI (raw, (fr, lines)) K :=
 (h (raw, (fr, lines)) ⟨f0, f1⟩ ⟨l0, l1⟩).to fun (d : List AA) _ hd => by
  have hd : d = GY raw fr lines := hd
  subst hd
  exact hk
end Go.VS
