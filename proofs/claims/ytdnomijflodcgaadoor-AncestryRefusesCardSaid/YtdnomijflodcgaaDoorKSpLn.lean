/- The lines of a text. -/
import Derived.Test.YtdnomijflodcgaaDoorKSpBase
import Derived.Test.YtdnomijflodcgaaDoorKGf0
import Derived.Test.YtdnomijflodcgaaDoorKGf1
import Derived.Test.YtdnomijflodcgaaDoorKSpNb
set_option linter.unusedVariables false
set_option linter.unusedSimpArgs false
namespace Go.VS
variable {P : Pg}
def lnN (acc : Bs) : Bs → List Bs
 | [] => []
 | b :: r => if b = 10 ∨ r = [] then (acc ++ [b]) :: lnN [] r else lnN (acc ++ [b]) r
def lnF (s : Bs) : List Bs := lnN [] s
def Ld (P : Pg) : Prop := ∀ s : Bs, s.length ≤ 100000000 → Fn P Ab3 Dc s fun (d : List Bs) _ => d = lnF s
theorem AdT {s : Bs} {i : Nat} (h : i < s.length) : List.take (i + 1) s = List.take i s ++ [s.getD i 0] := by
 rw [List.take_add_one, List.getElem?_eq_getElem h, List.getD_eq_getElem?_getD, List.getElem?_eq_getElem h]
 rfl
theorem Wz (h : Has P FT) : Ld P := by
 intro s hs
 refine Pm h ?_
 unfold K4
 refine Ai.mid (fun q => q = lnF s) ?_ fun q hq => hq
 refine Bl.of (fun q => 0 ≤ q.2.1 ∧ q.2.1 ≤ q.2.2 ∧ q.2.2 ≤ s.length ∧ (q.1.length : Int) ≤ q.2.2 ∧ q.1 ++ lnN (List.drop q.2.1.toNat (List.take q.2.2.toNat s)) (s.drop q.2.2.toNat) = lnF s) (fun q => (s.length - q.2.2).toNat) ⟨by decide, by decide, by dsimp only; omega, by simp, by simp [lnF]⟩ ?_
 rintro ⟨o, f, i⟩ ⟨f0, f1, i1, ho, e⟩
 dsimp only at f0 f1 i1 ho e ⊢
 refine ⟨fun hc => ?_, fun hc => ?_⟩
 ·have hc := of_decide_eq_true hc
  rw [w64 (n := i + 1) (by omega) (by omega)]
  have hi : i.toNat < s.length := by omega
  have hd : s.drop i.toNat = s.getD i.toNat 0 :: s.drop (i.toNat + 1) := by
   rw [List.drop_eq_getElem_cons hi, List.getD_eq_getElem?_getD, List.getElem?_eq_getElem hi, Option.getD_some]
  have e1 : (i + 1).toNat = i.toNat + 1 := by omega
  have hdr : List.drop f.toNat (List.take (i.toNat + 1) s) = List.drop f.toNat (List.take i.toNat s) ++ [s.getD i.toNat 0] := by
   rw [AdT hi, List.drop_append_of_le_length (by rw [List.length_take]; omega)]
  rw [hd, lnN] at e
  have hnil : s.drop (i.toNat + 1) = [] ↔ i + 1 = s.length := by
   rw [List.drop_eq_nil_iff]; omega
  refine Ai.mid (fun q => 0 ≤ q.2 ∧ q.2 ≤ i + 1 ∧ (q.1.length : Int) ≤ i + 1 ∧ q.1 ++ lnN (List.drop q.2.toNat (List.take (i.toNat + 1) s)) (s.drop (i.toNat + 1)) = lnF s) ⟨⟨by omega, hc⟩, Ai.of ⟨fun hb => ?_, fun hb => ?_⟩⟩ ?_
  ·rw [if_pos (by
    simp at hb
    rcases hb with hb | hb
    ·refine Or.inl ?_
     rw [List.getD_eq_getElem?_getD]
     exact UInt8.toNat_inj.1 (by rw [show (10 : UInt8).toNat = 10 from rfl]; omega)
    ·exact Or.inr (hnil.2 hb))] at e
   refine ⟨⟨f0, by omega, by omega⟩, by simp only [List.length_cons, List.length_nil]; omega, by dsimp only; omega, by dsimp only; omega, ?_, ?_⟩
   ·simp only [List.length_append, List.length_cons, List.length_nil]; omega
   ·dsimp only
    rw [e1, hdr, show List.drop (i.toNat + 1) (List.take (i.toNat + 1) s) = [] by rw [List.drop_eq_nil_iff, List.length_take]; omega, ← e]
    simp only [List.append_assoc, List.singleton_append]
  ·rw [if_neg (by
    simp at hb
    rintro (hh | hh)
    ·rw [List.getD_eq_getElem?_getD] at hh
     exact hb.1 (by rw [hh]; rfl)
    ·exact hb.2 (hnil.1 hh))] at e
   refine ⟨f0, by dsimp only; omega, by dsimp only; omega, ?_⟩
   dsimp only
   rw [hdr]
   exact e
  ·rintro ⟨o', f'⟩ ⟨k1, k2, k3, k4⟩
   dsimp only at k1 k2 k3 k4 ⊢
   exact ⟨⟨k1, k2, by omega, k3, by rw [e1]; exact k4⟩, by omega⟩
 ·have hc := of_decide_eq_false hc
  rw [show i.toNat = s.length by omega, List.drop_length, lnN, List.append_nil] at e
  exact e
end Go.VS
