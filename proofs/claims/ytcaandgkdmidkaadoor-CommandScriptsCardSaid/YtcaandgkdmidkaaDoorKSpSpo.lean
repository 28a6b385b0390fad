/- A text that is spoilt: how long it is. -/
import Derived.Test.YtcaandgkdmidkaaDoorKSpLn
set_option linter.unusedVariables false
set_option linter.unusedSimpArgs false
namespace Go.VS
variable {P : Pg}
def Yt (P : Pg) : Prop := ∀ x : Bs × (Int × (Int × Int)), x.1.length ≤ 1000000 → Fn P Aca Ym x fun (d : Bs) _ => d.length ≤ x.1.length + 1
theorem Yz (h : Has P Yp) (hM : Iz P) : Yt P := by
 rintro ⟨s, what, at_, c⟩ hs
 dsimp only at hs
 refine Yw h ?_
 unfold Yv
 dsimp only
 rw [w64 (n := (s.length : Int) + 1) (by omega) (by omega)]
 refine hM.at (by omega) (by omega) (hM.at (by decide) (by decide) ?_)
 have hr := IP (a := at_) (n := (s.length : Int) + 1) (by omega) (by omega)
 generalize Nq at_ ((s.length : Int) + 1) = i at hr ⊢
 generalize Nq what 4 = m
 have e1 : IntKind.i64.wrap (i + 1) = i + 1 := w64 (by omega) (by omega)
 rw [e1]
 have hl : ∀ n : Int, (strOf ([n] : List Int)).length = 1 := fun n => rfl
 have hm : 0 ≤ (if (s.length : Int) < i + 1 then (s.length : Int) else i + 1) ∧ (if (s.length : Int) < i + 1 then (s.length : Int) else i + 1) ≤ s.length ∧ i ≤ (if (s.length : Int) < i + 1 then (s.length : Int) else i + 1) := by split <;> omega
 refine Ao.mid (fun _ => True) ⟨fun _ => ?_, fun _ => ⟨fun _ => ?_, fun _ => ⟨fun _ => ?_, fun _ => trivial⟩⟩⟩ (fun _ _ => Nat.le_succ _)
 ·refine Ao.mid (fun q => q.length ≤ s.length + 1) ⟨⟨hr.1, by omega⟩, ⟨hr.1, by omega⟩, ⟨?_, ?_, ?_, trivial⟩, trivial⟩ (fun _ h => h)
  ·rw [List.length_take, hl]; omega
  ·rw [List.length_append, List.length_take, List.length_drop, hl]; omega
  ·dsimp only
   rw [List.length_append, List.length_append, List.length_take, List.length_drop, hl]; omega
 ·refine Ao.mid (fun q => q.length ≤ s.length + 1) ⟨⟨hr.1, by omega⟩, ⟨hm.1, hm.2.1⟩, ?_, ?_, trivial⟩ (fun _ h => h)
  ·rw [List.length_take, List.length_drop]; omega
  ·dsimp only
   rw [List.length_append, List.length_take, List.length_drop]; omega
 ·refine Ao.mid (fun q => q.length ≤ s.length + 1) ⟨⟨hr.1, by omega⟩, ⟨hm.1, hm.2.1⟩, ⟨?_, ?_, ?_, trivial⟩, trivial⟩ (fun _ h => h)
  ·rw [List.length_take, hl]; omega
  ·rw [List.length_append, List.length_take, List.length_drop, hl]; omega
  ·dsimp only
   rw [List.length_append, List.length_append, List.length_take, List.length_drop, hl]; omega
end Go.VS
