/- The statements about commands. -/
import Derived.Test.YtcaandgkdmidkaaDoorKSpCq
import Derived.Test.YtcaandgkdmidkaaDoorKSpWrd
import Derived.Test.YtcaandgkdmidkaaDoorKSpLn
set_option linter.unusedVariables false
set_option linter.unusedSimpArgs false
namespace Go.VS
variable {P : Pg}
theorem XF : DN (7, (3, (0, (2, (false, [120]))))) = ([108, 105, 110, 101, 115, 32, 51, 32, 48, 32, 50, 32, 120], 0) := by
 have d3 : B5 3 = [51] := by unfold B5; rw [if_neg (by decide), show (3 : Int).toNat = 3 from rfl, Lib.decDigits]; rfl
 have d0 : B5 0 = [48] := by unfold B5; rw [if_neg (by decide), show (0 : Int).toNat = 0 from rfl, Lib.decDigits]; rfl
 have d2 : B5 2 = [50] := by unfold B5; rw [if_neg (by decide), show (2 : Int).toNat = 2 from rfl, Lib.decDigits]; rfl
 have hq : Ar [120] = [120] := by decide
 rw [UE (f := ([108, 105, 110, 101, 115], (7, (false, (true, (true, true)))))) (by decide) (by decide) (by decide), KF (by decide) (by decide)]
 simp [Gu, Dk, Bc, Cy, d3, d0, d2, hq]
theorem XG (c : Command) : DN c ≠ ([108, 111, 103, 32, 48, 49], 0) := by
 intro h
 obtain ⟨f, m1, m2, m3, m4⟩ := Hn h
 have h1 := Ej (C9 f c)
 have h2 := Ej [[108, 111, 103], [48, 49]]
 have e : jq [[108, 111, 103], [48, 49]] = [108, 111, 103, 32, 48, 49] := by decide
 rw [e] at h2
 rw [← m4, h2] at h1
 have h3 := congrArg (fun x => x.1.getD 1 []) h1
 have h4 : [48, 49] = B5 (Cy 1 c) := h3
 have h5 := P6 (m3.1 1 (by simp [Bc]))
 rw [← h4] at h5
 exact absurd h5 (by rw [show HD [48, 49] = none by decide]; simp)
theorem Gj.at (h : Gj P) {s : Bs} (hs : s.length ≤ 100000) {K : Command × Int → Unit → Prop} (hk : ∀ d, KW s d → K d ()) : Fn P zS1 AZ s K :=
 (h s hs).to fun (d : Command × Int) _ hd => hk d hd
def Fi (P : Pg) : Prop := Fn P zS4 Bg () fun (d : Bool) _ => d = true
theorem RB (h : Has P Ek) (hP : Gj P) : Fi P := by
 refine Ma h ?_
 unfold Im
 refine hP.at (by decide) fun d hd => hP.at (by decide) fun d' hd' => ?_
 have e := hd.eq (.inl ⟨rfl, XF⟩ : KW _ ((7, (3, (0, (2, (false, [120]))))), 0))
 have e' := hd'.eq (.inr ⟨rfl, XG⟩)
 rw [e, e']
 rfl
theorem Fi.at (h : Fi P) {K : Bool → Unit → Prop} (hk : K true ()) : Fn P zS4 Bg () K :=
 Fn.to h fun (d : Bool) _ hd => by
  have hd : d = true := hd
  subst hd
  exact hk
end Go.VS
