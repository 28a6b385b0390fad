/- Bars: the statements. -/
import Derived.Test.YtcaandgkdmidkaaDoorKSpSf
import Derived.Test.YtcaandgkdmidkaaDoorKSpMod
import Derived.KernelRfl
set_option linter.unusedVariables false
set_option linter.unusedSimpArgs false
namespace Go.VS
variable {P : Pg}
theorem HX.at (h : HX P) {a r m w : Int} {K : Int × (Int × Int) → Unit → Prop} (hk : K (Lx a r m w) ()) : Fn P zS2 Bh (a, (r, (m, w))) K :=
 (h (a, (r, (m, w)))).to fun (d : Int × (Int × Int)) _ hd => by
  have hd : d = Lx a r m w := hd
  subst hd
  exact hk
theorem Sv : Lx 60 40 100 10 = (6, (4, 0)) := by kernel_rfl
theorem SZ : Ed 1 = [49] := by unfold Ed; rw [if_neg (by decide), show (1 : Int).toNat = 1 from rfl, Lib.decDigits]; rfl
theorem S0 : Ed 2 = [50] := by unfold Ed; rw [if_neg (by decide), show (2 : Int).toNat = 2 from rfl, Lib.decDigits]; rfl
theorem S8 : Ed 3 = [51] := by unfold Ed; rw [if_neg (by decide), show (3 : Int).toNat = 3 from rfl, Lib.decDigits]; rfl
theorem Sw : sfF [(([120] : List UInt8), ((1 : Int), (2 : Int)))] 10 = ([32, 120, 32, 124, 32, 51, 32, 43, 45, 45, 10, 32, 49, 32, 102, 105, 108, 101, 115, 44, 32, 49, 32, 97, 100, 100, 101, 100, 44, 32, 50, 32, 114, 101, 109, 111, 118, 101, 100, 10], 0) := by
 have h1 : Fw [(([120] : List UInt8), ((1 : Int), (2 : Int)))] = (1, (2, (3, true))) := by kernel_rfl
 have h2 : Cz 1 2 3 10 = (1, 2) := by kernel_rfl
 unfold sfF
 rw [h1]
 dsimp only
 rw [if_neg (by decide)]
 have h3 : CY [120] = [120] := by decide
 simp only [List.flatMap_cons, List.flatMap_nil, List.append_nil, Cj, LG, h2, h3, List.length_cons, List.length_nil, show ((1 : Int) + 2) = 3 from rfl, show (((0 + 1 : Nat) : Int)) = 1 from rfl, SZ, S0, S8]
 rfl
def D5 (P : Pg) : Prop := Fn P zS3 Bk () fun (d : Bool) _ => d = true
theorem N4 (h : Has P Dn) (hB : HX P) (hS : GM P) : D5 P := by
 refine Ju h ?_
 unfold GB
 refine hB.at ?_
 refine (hS ([(([120] : List UInt8), ((1 : Int), (2 : Int)))], 10) ⟨by decide, fun s hs => ?_⟩).to ?_
 ·have : s = (([120] : List UInt8), ((1 : Int), (2 : Int))) := by simpa using hs
  subst this
  decide
 ·rintro (d : Bs × Int) _ hd
  have hd : d = sfF [(([120] : List UInt8), ((1 : Int), (2 : Int)))] 10 := hd
  rw [Sw] at hd
  subst hd
  rw [Sv]
  rfl
theorem D5.at (h : D5 P) {K : Bool → Unit → Prop} (hk : K true ()) : Fn P zS3 Bk () K :=
 Fn.to h fun (d : Bool) _ hd => by
  have hd : d = true := hd
  subst hd
  exact hk
theorem To (h : Has P Ti) (hB : HX P) (hM : Jc P) (hAw : D5 P) (x : Int × (Int × (Int × Int))) :
  Fn P zS6 Th x fun (d : Bool) _ => d = true := by
 obtain ⟨a, r, m, w⟩ := x
 refine Tm h ?_
 unfold Tk
 dsimp only
 refine hM.at (by decide) (by decide) (hM.at (by decide) (by decide) (hM.at (by decide) (by decide) (hM.at (by decide) (by decide) ?_)))
 have h1 := Tl (a := a) (n := 5000) (by decide) (by decide)
 have h2 := Tl (a := r) (n := 5000) (by decide) (by decide)
 have h3 := Tl (a := m) (n := 100000) (by decide) (by decide)
 have h4 := Tl (a := w) (n := 100) (by decide) (by decide)
 generalize Q6 a 5000 = p at *
 generalize Q6 r 5000 = q at *
 generalize Q6 m 100000 = u at *
 generalize Q6 w 100 = v at *
 rw [w64 (n := p + q) (by omega) (by omega), w64 (n := p + q + u) (by omega) (by omega), w64 (n := 2 + v) (by omega) (by omega)]
 refine hB.at ?_
 have hok : Iu p q (p + q + u) (2 + v) := ⟨by omega, by omega, by omega, by omega, by omega, by omega⟩
 have hbf : Lx p q (p + q + u) (2 + v) = ((Cz p q (p + q + u) (2 + v)).1, ((Cz p q (p + q + u) (2 + v)).2, 0)) := by unfold Lx; rw [if_pos hok]
 rw [hbf]
 dsimp only
 refine ⟨fun hc => by simp at hc, fun _ => ⟨fun hc => ?_, fun hc => ?_⟩⟩
 ·have hc := of_decide_eq_true hc
  have e : Cz p q (p + q + u) (2 + v) = (p, q) := by unfold Cz; rw [if_pos hc]
  rw [e]
  simp only [beq_self_eq_true, cond_true]
  refine BI.mid (fun d => d = true) ⟨fun _ => hAw.at rfl, fun hc => absurd hc (by simp), trivial⟩ ?_
  rintro d rfl
  rfl
 ·have hc := of_decide_eq_false hc
  obtain ⟨f1, f2, f3, f4, f5⟩ := QT (a := p) (r := q) (most := p + q + u) (width := 2 + v) (by omega) (by omega) (by omega) (by omega) (by omega)
  generalize Cz p q (p + q + u) (2 + v) = b at *
  rw [w64 (n := b.1 + b.2) (by omega) (by omega)]
  have d1 : decide (b.1 + b.2 ≤ 2 + v) = true := decide_eq_true f1
  have d2 : (decide (b.1 > 0) == decide (p > 0)) = true := by simp only [f2, beq_self_eq_true]
  have d3 : (decide (b.2 > 0) == decide (q > 0)) = true := by simp only [f3, beq_self_eq_true]
  have d4 : decide (b.1 ≥ 0) = true := decide_eq_true f4
  have d5 : decide (b.2 ≥ 0) = true := decide_eq_true f5
  rw [d1, d2, d3, d4, d5]
  refine BI.mid (fun d => d = true) ⟨fun _ => hAw.at rfl, fun hc => absurd hc (by simp), trivial⟩ ?_
  rintro d rfl
  rfl
end Go.VS
