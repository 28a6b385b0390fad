/- What the statements about layer 4 use. -/
import Derived.Test.YtbandpkgjepklaaKSpCnt
import Derived.Test.YtbandpkgjepklaaKSpNode
import Derived.Test.YtbandpkgjepklaaKSpPatt
import Derived.Test.YtbandpkgjepklaaKSpPP
import Derived.Test.YtbandpkgjepklaaKSpPrs
import Derived.KernelRfl
set_option linter.unusedVariables false
set_option linter.unusedSimpArgs false
namespace Go.VS
variable {P : Pg}
def IM (P : Pg) : Prop := ∀ l : List Node, KB l → l.length ≤ 1000000 → Fn P Ut Cz (l, l) fun (d : Bool) _ => d = true
theorem Xn (h : Has P Ie) (hI : OX P) : IM P := by
 intro l hK hl
 refine RR h ?_
 unfold Of
 dsimp only
 refine ⟨fun hc => by simp at hc, fun _ => ?_⟩
 refine Ag.mid (fun _ => True) ?_ fun d _ => rfl
 refine B0.of (fun d => d.1 = false ∧ 0 ≤ d.2 ∧ d.2 ≤ l.length) (fun d => (l.length - d.2).toNat) ⟨rfl, Int.le_refl _, by dsimp only; omega⟩ ?_
 rintro ⟨u, k⟩ ⟨hu, k0, k1⟩
 dsimp only at hu k0 k1 ⊢
 subst hu
 refine ⟨fun hc => Ag.of ?_, fun _ => trivial⟩
 have hc := of_decide_eq_true hc
 have hn : k.toNat < l.length := by omega
 have hk := hK k.toNat
 generalize l.getD k.toNat Ak = n at hk ⊢
 obtain ⟨n1, ⟨a, b, c, d⟩, n3, n4, kids⟩ := n
 refine Ag.mid (fun d => d = false) ?_ ?_
 ·simp only [bne_self_eq_false, beq_self_eq_true, Bool.and_self, Bool.not_true, cond_false, true_and, and_true, forall_const]
  refine ⟨⟨k0, hc⟩, hn, ⟨k0, hc⟩, hn, ?_⟩
  simp only [k0, hc, hn, and_self, true_and, forall_const, implies_true]
  refine Ag.mid (fun d => d = true) ?_ ?_
  ·refine ⟨(hI (kids, kids) hk).to ?_, fun hh => by simp at hh⟩
   rintro (d : Bool) _ hd
   exact hd.2 rfl
  ·rintro d rfl
   rfl
 ·rintro d rfl
  refine ⟨fun hh => (by simp at hh), fun _ => ?_⟩
  rw [w64 (by omega) (by omega)]
  exact ⟨⟨rfl, by omega, by omega⟩, by omega⟩
theorem W9 : Dy [97, 124, 98, 42] = ([setNode (EG z4 97), setNode (EG z4 98), Hf 0 (-1) 1, EV 5 [0, 2]], 0) := by kernel_rfl
theorem Xa : (Dy [97, 42, 42]).2 = 40 := by decide +kernel
theorem Hk.at {Q : List Node × Int → Unit → Prop} (h : Hk P) {s : Bs} (hk : Q (Dy s) ()) : Fn P zS8 Cc s Q :=
 (h s).to fun (d : List Node × Int) _ hd => by
  have hd : d = Dy s := hd
  subst hd
  exact hk
def Hr (P : Pg) : Prop := Fn P ND Cx () fun (d : Bool) _ => d = true
theorem Vo (h : Has P Gj) (hP : Hk P) (hI : OX P) : Hr P := by
 refine Py h ?_
 unfold LQ
 refine hP.at (hP.at ?_)
 rw [W9, Xa]
 refine ⟨fun _ => by decide, fun _ => by decide, fun _ => by decide, fun _ => by decide, fun _ => by decide, fun _ => by decide, fun _ => ⟨by decide, by decide, (hI (([0, 2] : List Int), [0, 2]) (by decide)).to ?_⟩, fun hc => by simp [Hf, EV, setNode] at hc⟩
 rintro (d : Bool) _ hd
 have hd : d = true := hd.2 rfl
 subst hd
 rfl
theorem Hr.at (h : Hr P) {K : Bool → Unit → Prop} (hk : K true ()) : Fn P ND Cx () K :=
 Fn.to h fun (d : Bool) _ hd => by
  have hd : d = true := hd
  subst hd
  exact hk
theorem TO (s : Bs) : KB (Dy s).1 ∧ (Dy s).1.length ≤ 1000000 := by
 cases h : Dy s with
 | mk l e =>
  by_cases he : e = 0
  ·subst he
   have := YC h
   exact ⟨this.2.1, by have := this.1.hi; dsimp only; omega⟩
  ·have hl : l = [] := by
    unfold Dy at h
    split at h
    ·cases h; rfl
    ·split at h
     ·cases h; rfl
     ·split at h
      ·cases h; rfl
      ·cases h; exact absurd rfl he
   subst hl
   exact ⟨fun i => by simp [Ak], by simp⟩
theorem IM.at (h : IM P) {s : Bs} {K : Bool → Unit → Prop} (hk : K true ()) : Fn P Ut Cz ((Dy s).1, (Dy s).1) K :=
 (h _ (TO s).1 (TO s).2).to fun (d : Bool) _ hd => by
  have hd : d = true := hd
  subst hd
  exact hk
end Go.VS
