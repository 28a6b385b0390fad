/- What the statements about layer 4 use. -/
import Derived.Test.YtbandpkgjepklaaKSpCnt
import Derived.Test.YtbandpkgjepklaaKSpNode
import Derived.Test.YtbandpkgjepklaaKSpPatt
import Derived.Test.YtbandpkgjepklaaKSpPP
import Derived.Test.YtbandpkgjepklaaKSpPrs
import Derived.KernelRfl
set_option linter.unusedVariables false
set_option linter.unusedSimpArgs false
namespace Go.VS
variable {P : Pg}
def IM (P : Pg) : Prop := ∀ l : List Node, KB l → l.length ≤ 1000000 → Fn P Un Cz (l, l) fun (d : Bool) _ => d = true
theorem Xn (h : Has P Ie) (hI : OX P) : IM P := by
 intro l hK hl
 refine RR h ?_
 unfold Of
 dsimp only
 refine ⟨fun hc => by simp at hc, fun _ => ?_⟩
 refine Ag.mid (fun _ => True) ?_ fun d _ => rfl
 refine B0.of (fun d => d.1 = false ∧ 0 ≤ d.2 ∧ d.2 ≤ l.length) (fun d => (l.length - d.2).toNat) ⟨rfl, Int.le_refl _, by dsimp only; omega⟩ ?_
 rintro ⟨u, k⟩ ⟨hu, k0, k1⟩
 dsimp only at hu k0 k1 ⊢
 subst hu
 refine ⟨fun hc => Ag.of ?_, fun _ => trivial⟩
 have hc := of_decide_eq_true hc
 have hn : k.toNat < l.length := by omega
 have hk := hK k.toNat
 generalize l.getD k.toNat Ak = n at hk ⊢
 obtain ⟨n1, ⟨a, b, c, d⟩, n3, n4, kids⟩ := n
 refine Ag.mid (fun d => d = false) ?_ ?_
 ·simp only [bne_self_eq_false, beq_self_eq_true, Bool.and_self, Bool.not_true, cond_false, true_and, and_true, forall_const]
  refine ⟨⟨k0, hc⟩, hn, ⟨k0, hc⟩, hn, ?_⟩
  simp only [k0, hc, hn, and_self, true_and, forall_const, implies_true]
  refine Ag.mid (fun d => d = true) ?_ ?_
  ·refine ⟨(hI (kids, kids) hk).to ?_, fun hh => by simp at hh⟩
   rintro (d : Bool) _ hd
   exact hd.2 rfl
  ·rintro d rfl
   rfl
 ·rintro d rfl
  refine ⟨fun hh => (by simp at hh), fun _ => ?_⟩
  rw [w64 (by omega) (by omega)]
  exact ⟨⟨rfl, by omega, by omega⟩, by omega⟩
def L2 (P : Pg) : Prop := ∀ x : Bs × (Int × (Int × Int)), x.1.length ≤ 1000000 → Fn P Y0 CL x fun (d : Bs) _ => True
theorem Vn (h : Has P Gi) (hM : NF P) : L2 P := by
 rintro ⟨s, what, at_, c⟩ hs
 dsimp only at hs
 refine Px h ?_
 unfold LP
 dsimp only
 rw [w64 (n := (s.length : Int) + 1) (by omega) (by omega)]
 refine hM.at (by omega) (by omega) (hM.at (by decide) (by decide) ?_)
 have hr := Jw (a := at_) (n := (s.length : Int) + 1) (by omega) (by omega)
 generalize LL at_ ((s.length : Int) + 1) = i at hr ⊢
 generalize LL what 4 = m
 have e1 : IntKind.i64.wrap (i + 1) = i + 1 := w64 (by omega) (by omega)
 rw [e1]
 have hl : ∀ n : Int, (strOf ([n] : List Int)).length = 1 := fun n => rfl
 have hm : 0 ≤ (if (s.length : Int) < i + 1 then (s.length : Int) else i + 1) ∧ (if (s.length : Int) < i + 1 then (s.length : Int) else i + 1) ≤ s.length := by split <;> omega
 refine Ag.mid (fun _ => True) ⟨fun _ => ?_, fun _ => ⟨fun _ => ?_, fun _ => ⟨fun _ => ?_, fun _ => trivial⟩⟩⟩ (fun _ _ => trivial)
 ·refine Ag.mid (fun _ => True) ⟨⟨hr.1, by omega⟩, ⟨hr.1, by omega⟩, ⟨?_, ?_, trivial, trivial⟩, trivial⟩ (fun _ _ => trivial)
  ·rw [List.length_take, hl]; omega
  ·rw [List.length_append, List.length_take, List.length_drop, hl]; omega
 ·refine Ag.mid (fun _ => True) ⟨⟨hr.1, by omega⟩, hm, ?_, trivial, trivial⟩ (fun _ _ => trivial)
  rw [List.length_take, List.length_drop]; omega
 ·refine Ag.mid (fun _ => True) ⟨⟨hr.1, by omega⟩, hm, ⟨?_, ?_, trivial, trivial⟩, trivial⟩ (fun _ _ => trivial)
  ·rw [List.length_take, hl]; omega
  ·rw [List.length_append, List.length_take, List.length_drop, hl]; omega
theorem W9 : Dy [97, 124, 98, 42] = ([setNode (EG z4 97), setNode (EG z4 98), Hf 0 (-1) 1, EV 5 [0, 2]], 0) := by kernel_rfl
theorem Xa : (Dy [97, 42, 42]).2 = 40 := by decide +kernel
theorem Hk.at {Q : List Node × Int → Unit → Prop} (h : Hk P) {s : Bs} (hk : Q (Dy s) ()) : Fn P QU Cc s Q :=
 (h s).to fun (d : List Node × Int) _ hd => by
  have hd : d = Dy s := hd
  subst hd
  exact hk
theorem IP.at {Q : List Node × Int → Unit → Prop} (h : IP P) {s : Bs} (hk : Q (Dy s) ()) : Fn P Um B2 s Q :=
 (h s).to fun (d : List Node × Int) _ hd => by
  have hd : d = Dy s := hd
  subst hd
  exact hk
def Hr (P : Pg) : Prop := Fn P XJ Cx () fun (d : Bool) _ => d = true
theorem Vo (h : Has P Gj) (hP : Hk P) (hI : OX P) : Hr P := by
 refine Py h ?_
 unfold LQ
 refine hP.at (hP.at ?_)
 rw [W9, Xa]
 refine ⟨fun _ => by decide, fun _ => by decide, fun _ => by decide, fun _ => by decide, fun _ => by decide, fun _ => by decide, fun _ => ⟨by decide, by decide, (hI (([0, 2] : List Int), [0, 2]) (by decide)).to ?_⟩, fun hc => by simp [Hf, EV, setNode] at hc⟩
 rintro (d : Bool) _ hd
 have hd : d = true := hd.2 rfl
 subst hd
 rfl
theorem Hr.at (h : Hr P) {K : Bool → Unit → Prop} (hk : K true ()) : Fn P XJ Cx () K :=
 Fn.to h fun (d : Bool) _ hd => by
  have hd : d = true := hd
  subst hd
  exact hk
theorem TO (s : Bs) : KB (Dy s).1 ∧ (Dy s).1.length ≤ 1000000 := by
 cases h : Dy s with
 | mk l e =>
  by_cases he : e = 0
  ·subst he
   have := YC h
   exact ⟨this.2.1, by have := this.1.hi; dsimp only; omega⟩
  ·have hl : l = [] := by
    unfold Dy at h
    split at h
    ·cases h; rfl
    ·split at h
     ·cases h; rfl
     ·split at h
      ·cases h; rfl
      ·cases h; exact absurd rfl he
   subst hl
   exact ⟨fun i => by simp [Ak], by simp⟩
theorem IM.at (h : IM P) {s : Bs} {K : Bool → Unit → Prop} (hk : K true ()) : Fn P Un Cz ((Dy s).1, (Dy s).1) K :=
 (h _ (TO s).1 (TO s).2).to fun (d : Bool) _ hd => by
  have hd : d = true := hd
  subst hd
  exact hk
theorem Qq (h : Has P Dj) (hPt : L0 P) (hS : L2 P) (hP : Hk P) (hR : IP P) (hN : IM P) (hAw : Hr P) (x : List Int × (Int × (Int × (Int × Int)))) :
  Fn P AaZ Bg x fun (d : Bool) _ => d = true := by
 obtain ⟨raw, n, y⟩ := x
 refine Ko h ?_
 unfold GP
 dsimp only
 refine (hPt (raw, n)).to ?_
 rintro (p : Bs) _ ⟨hm, hpl⟩
 refine (hS (p, y) (by dsimp only; omega)).to ?_
 rintro (s : Bs) _ -
 refine hP.at (hR.at (hP.at (hR.at ?_)))
 simp only [beq_self_eq_true, cond_true]
 refine Ag.mid (fun d => d = true) ⟨fun _ => hN.at rfl, fun hc => absurd hc (by simp), trivial⟩ ?_
 rintro d rfl
 refine Ag.mid (fun d => d = true) ⟨fun _ => hN.at rfl, fun hc => absurd hc (by simp), trivial⟩ ?_
 rintro d rfl
 refine Ag.mid (fun d => d = true) ⟨fun _ => hAw.at rfl, fun hc => absurd hc (by simp), trivial⟩ ?_
 rintro d rfl
 rfl
end Go.VS
