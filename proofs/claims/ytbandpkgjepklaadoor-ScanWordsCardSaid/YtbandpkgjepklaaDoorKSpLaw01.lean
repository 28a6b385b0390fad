/- Words and numbers: the awake check; what the program and the document answer is the same. -/
import Derived.Test.YtbandpkgjepklaaDoorKSpFmt
import Derived.Test.YtbandpkgjepklaaDoorKSpRun
set_option linter.unusedVariables false
set_option linter.unusedSimpArgs false
namespace Go.VS
variable {P : Program}
theorem aw_num : numG ([97, 49, 50, 98], 1) = (12, (3, true)) := by decide
theorem aw_quo : quoteF [97, 32, 98] = [34, 97, 32, 98, 34] := by decide
theorem aw_unq : unqF ([34, 97, 32, 98, 34], 0) = ([97, 32, 98], (5, true)) := by decide
theorem aw_fr : frF (4, 0) = [52, 44, 48] := by
 have h : fmtF 4 = [52] := by
  unfold fmtF
  rw [if_neg (by decide), Lib.decDigits]
  rfl
 unfold frF
 rw [if_neg (by decide), if_pos rfl]
 dsimp only
 rw [h]
 rfl
def Sp_awake01 (P : Program) : Prop := Fn P "mergelens/mergelenslaw01.awake" S_law01_awake () fun (d : Bool) _ => d = true
theorem sp_awake01 (h : Has P F_law01_awake) (hN : Sp_Number P) (hQ : Sp_Quote P) (hU : Sp_Unquote P) (hF : Sp_FormatRange P) : Sp_awake01 P := by
 refine fn_law01_awake h ?_
 unfold W_law01_awake
 refine (hN _ (by decide)).to ?_
 rintro (d1 : Int × (Int × Bool)) _ h1
 refine (hQ _ (by decide)).to ?_
 rintro (d3 : Bs) _ h3
 have h1 := h1.trans aw_num
 have h3 := h3.trans aw_quo
 subst h1
 subst h3
 refine (hU _ (by decide)).to ?_
 rintro (d5 : Bs × (Int × Bool)) _ h5
 have h5 := h5.trans aw_unq
 subst h5
 dsimp only
 refine JoinW.mid (fun d => d = [52, 44, 48]) ⟨fun _ => ?_, fun hc => absurd hc (by decide), trivial⟩ ?_
 ·refine (hF _).to ?_
  rintro (d8 : Bs) _ h8
  exact h8.trans aw_fr
 ·rintro d rfl
  decide
theorem Sp_awake01.at (h : Sp_awake01 P) {K : Bool → Unit → Prop} (hk : K true ()) : Fn P "mergelens/mergelenslaw01.awake" S_law01_awake () K := Fn.to h fun (d : Bool) _ hd => by
 have hd : d = true := hd
 subst hd
 exact hk
end Go.VS
