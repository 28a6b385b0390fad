/- Lists of numbers: counted, compared. -/
import Derived.Test.YtbandpkgjepklaaKSpBase
import Derived.Test.YtbandpkgjepklaaKGf0
import Derived.Test.YtbandpkgjepklaaKSpNode
set_option linter.unusedVariables false
set_option linter.unusedSimpArgs false
namespace Go.VS
variable {P : Pg}
def OX (P : Pg) : Prop := ∀ x : List Int × List Int, x.1.length ≤ 140737488351232 → Fn P zS6 Df x fun (d : Bool) _ => d = true ↔ x.1 = x.2
theorem ZL (h : Has P Je) : OX P := by
 rintro ⟨l, m⟩ hl
 refine SZ h ?_
 unfold Pc
 dsimp only at hl ⊢
 refine ⟨fun hc => ?_, fun hc => ?_⟩
 ·simp at hc
  exact ⟨fun h => (nomatch h), fun h => by rw [h] at hc; exact (hc rfl).elim⟩
 simp at hc
 refine Ag.mid (fun _ => l = m) ?_ fun d hd => ⟨fun _ => hd, fun _ => rfl⟩
 refine B0.of (fun d => 0 ≤ d.2 ∧ d.2 ≤ l.length ∧ ∀ k : Nat, (k : Int) < d.2 → l.getD k 0 = m.getD k 0) (fun d => (l.length - d.2).toNat) ⟨Int.le_refl _, by dsimp only; omega, fun k hk => by dsimp only at hk; omega⟩ ?_
 rintro ⟨u, k⟩ ⟨k0, k1, hk⟩
 dsimp only at k0 k1 hk ⊢
 refine ⟨fun hb => Ag.of ?_, fun hb => ?_⟩
 ·have hb := of_decide_eq_true hb
  rw [w64 (by omega) (by omega)]
  refine ⟨⟨k0, hb⟩, by omega, ⟨k0, by omega⟩, by omega, fun he => ?_, fun he => ?_⟩
  ·simp [-List.getD_eq_getElem?_getD] at he
   exact ⟨fun h => (nomatch h), fun h => by subst h; simp at he⟩
  ·simp [-List.getD_eq_getElem?_getD] at he
   refine ⟨⟨by omega, by omega, fun k' hk' => ?_⟩, by omega⟩
   by_cases e : k' = k.toNat
   ·subst e; exact he
   ·exact hk k' (by omega)
 ·have hb := of_decide_eq_false hb
  exact Yf 0 (by omega) fun i hi => hk i (by omega)
def Akh (n : Nat) : List Int := (List.range n).map fun (i : Nat) => (i : Int)
theorem Aku (n : Nat) : Akh (n + 1) = Akh n ++ [(n : Int)] := by unfold Akh; rw [List.range_succ, List.map_append]; rfl
theorem Akk (n : Nat) : (Akh n).length = n := by simp [Akh]
def Akm (P : Pg) : Prop := ∀ x : Int, 0 ≤ x → x ≤ 1000000 → Fn P Oe Aj5 x fun (d : List Int) _ => d = Akh x.toNat
theorem AkA (h : Has P Akc) : Akm P := by
 intro x h0 h1
 refine Ako h ?_
 unfold Akj
 refine Ag.mid (fun d => d = Akh x.toNat) ?_ fun d hd => hd
 refine B0.of (fun d => 0 ≤ d.2 ∧ d.2 ≤ x ∧ d.1 = Akh d.2.toNat) (fun d => (x - d.2).toNat) ⟨Int.le_refl _, h0, rfl⟩ ?_
 rintro ⟨l, i⟩ ⟨i0, i1, hl⟩
 dsimp only at i0 i1 hl ⊢
 subst hl
 have hlen := Akk i.toNat
 refine ⟨fun hc => Ag.of ?_, fun hc => ?_⟩
 ·have hc := of_decide_eq_true hc
  rw [w64 (by omega) (by omega)]
  refine ⟨by simp only [List.length_cons, List.length_nil]; omega, ⟨by omega, by omega, ?_⟩, by omega⟩
  rw [show (i + 1).toNat = i.toNat + 1 by omega, Aku, show ((i.toNat : Nat) : Int) = i by omega]
 ·have hc := of_decide_eq_false hc
  rw [show i = x by omega]
end Go.VS
