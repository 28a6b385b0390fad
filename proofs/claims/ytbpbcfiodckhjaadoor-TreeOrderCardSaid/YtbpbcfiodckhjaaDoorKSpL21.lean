/- The statements about paths, and about which trees are valid. -/
import Derived.Test.YtbpbcfiodckhjaaDoorKSpRTree
set_option linter.unusedVariables false
set_option linter.unusedSimpArgs false
namespace Go.VS
variable {P : Pg}
theorem OE {l : List Aw} (h : l.length ≤ 10) (h2 : ∀ f ∈ l, f.1.length ≤ 1000 ∧ f.2.length ≤ 1000) : CH l := ⟨by omega, fun f hf => by have := h2 f hf; omega⟩
def Fu (P : Pg) : Prop := Fn P RB Bp () fun (d : Bool) _ => d = true
theorem SN (h : Has P EA) (hF : Hu P) (hT : Du P) (hC : Dt P) : Fu P := by
 refine Mu h ?_
 unfold IA
 refine hF.at (by decide) (hT.at (OE (by decide) (by decide)) ?_)
 rw [show Eu [(([97] : List UInt8), ([] : List UInt8)), (([97, 45, 98] : List UInt8), ([] : List UInt8)), (([97, 47, 99] : List UInt8), ([] : List UInt8))] = 211 from by decide,
  show findF [(([97] : List UInt8), ([120] : List UInt8))] [97] = ([120], true) from by decide]
 simp only [beq_self_eq_true, cond_true]
 refine ⟨fun _ => by decide, ?_⟩
 refine Ar.mid (fun d => d = 0) ⟨⟨by decide, fun _ => hT.at (OE (by decide) (by decide)) (by decide)⟩, fun hc => absurd hc (by simp), trivial⟩ ?_
 rintro d rfl
 simp only [beq_self_eq_true, cond_true]
 refine Ar.mid (fun d => d = 210) ⟨fun _ => hC.at (by decide) (by decide), fun hc => absurd hc (by simp), trivial⟩ ?_
 rintro d rfl
 simp only [beq_self_eq_true, cond_true]
 refine Ar.mid (fun d => d = 0) ⟨fun _ => hC.at (by decide) (by decide), fun hc => absurd hc (by simp), trivial⟩ ?_
 rintro d rfl
 rfl
theorem Fu.at (h : Fu P) {K : Bool → Unit → Prop} (hk : K true ()) : Fn P RB Bp () K :=
 Fn.to h fun (d : Bool) _ hd => by
  have hd : d = true := hd
  subst hd
  exact hk
end Go.VS
