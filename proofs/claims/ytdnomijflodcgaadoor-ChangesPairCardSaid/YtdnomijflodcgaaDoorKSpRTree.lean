/- The document's trees. -/
import Derived.Test.YtdnomijflodcgaaDoorKSpTree
set_option linter.unusedVariables false
set_option linter.unusedSimpArgs false
namespace Go.VS
variable {P : Pg}
def findF : List AJ → Bs → Bs × Bool
 | [], _ => ([], false)
 | f :: r, p => if f.1 = p then (f.2, true) else findF r p
theorem Wp {l : List AJ} {i : Nat} (hi : i < l.length) (p : Bs) : findF (l.drop i) p = if (l.getD i ([], [])).1 = p then ((l.getD i ([], [])).2, true) else findF (l.drop (i + 1)) p := by
 rw [List.drop_eq_getElem_cons hi, findF, getD_eq hi]
def Ja (P : Pg) : Prop := ∀ x : List AJ × Bs, x.1.length ≤ 1000000 → Fn P YJ Cz x fun (d : Bs × Bool) _ => d = findF x.1 x.2
theorem YE (h : Has P Hn) : Ja P := by
 rintro ⟨l, p⟩ hl
 dsimp only at hl
 refine Rp h ?_
 unfold Nb
 dsimp only
 refine Aj.mid (fun _ => findF l p = ([], false)) ?_ fun _ h => h.symm
 refine A3.of (fun q => (0 ≤ q.2.2 ∧ q.2.2 ≤ l.length) ∧ findF (l.drop q.2.2.toNat) p = findF l p) (fun q => (l.length - q.2.2).toNat) ⟨⟨Int.le_refl _, by dsimp only; omega⟩, rfl⟩ ?_
 rintro ⟨q1, q2, i⟩ ⟨⟨i0, i1⟩, hq⟩
 dsimp only at i0 i1 hq ⊢
 refine ⟨fun hi => ?_, fun hi => ?_⟩
 ·have hi := of_decide_eq_true hi
  have hi2 : i.toNat < l.length := by omega
  rw [Wp hi2] at hq
  refine Aj.mid (fun _ => (l.getD i.toNat ([], [])).1 ≠ p) ⟨⟨i0, hi⟩, hi2, fun hb => ?_, fun hb => beq_eq_false_iff_ne.1 hb⟩ fun _ hn => ?_
  ·rw [if_pos (eq_of_beq hb)] at hq
   exact hq
  ·rw [if_neg hn] at hq
   rw [w64 (by omega) (by omega), show (i + 1).toNat = i.toNat + 1 by omega]
   exact ⟨⟨⟨by omega, by omega⟩, hq⟩, by omega⟩
 ·have hi := of_decide_eq_false hi
  rw [List.drop_of_length_le (by omega)] at hq
  exact hq.symm
theorem Ja.at (h : Ja P) {l : List AJ} {p : Bs} (hl : l.length ≤ 1000000) {K : Bs × Bool → Unit → Prop} (hk : K (findF l p) ()) : Fn P YJ Cz (l, p) K :=
 (h (l, p) hl).to fun (d : Bs × Bool) _ hd => by
  have hd : d = findF l p := hd
  subst hd
  exact hk
end Go.VS
