/- ChangesRefuses. -/
import Derived.Test.YtdnomijflodcgaaDoorKSpChg
import Derived.Test.YtdnomijflodcgaaDoorKSpDiff5
import Derived.Test.YtdnomijflodcgaaDoorKSpDiff4
set_option linter.unusedVariables false
set_option linter.unusedSimpArgs false
namespace Go.VS
variable {P : Pg}
def gA : List Ay := [([], (0, [([120], [97])]))]
theorem Abv {c : Int} (h : inR gA c) : c = 0 := by
 have h1 := h.1
 have h2 : c < 1 := h.2
 omega
theorem AaC : ∀ {c : Int}, inR gA c → Bh gA c = [] := fun {c} h => by rw [Abv h]; rfl
theorem X3 : DE gA 0 := by
 have hm : ∀ c ∈ gA, c = ([], (0, [([120], [97])])) := fun c hc => List.mem_singleton.1 hc
 refine OS ⟨by decide, fun c hc => ?_⟩ (fun c hc j hj => ?_) ?_ (fun c hc => ?_) ?_
 ·rw [hm c hc]; decide
 ·rw [hm c hc] at hj; exact absurd hj (by simp)
 ·rintro ⟨c, hc, p, hp, _⟩
  rw [AaC hc] at hp
  cases hp
 ·rw [hm c hc]; decide
 ·have : Du [(([120] : List UInt8), ([97] : List UInt8))] = 0 := by decide
  show 0 = if Du [(([120] : List UInt8), ([97] : List UInt8))] ≠ 0 then _ else _
  rw [if_neg (by simpa using this)]
  rfl
theorem X4 : M3 gA := fun c hc f hf => by
 have hc : c = ([], (0, [([120], [97])])) := List.mem_singleton.1 hc
 rw [hc] at hf
 have hf : f = ([120], [97]) := List.mem_singleton.1 hf
 rw [hf]
 decide
theorem Zk : Mp [] [(([120] : List UInt8), ([97] : List UInt8))] [([120], 1)] := by
 refine Np (NT (by decide)) (NT (by decide)) ?_ (List.pairwise_singleton _ _)
 exact List.Perm.of_eq (by decide)
def GG (P : Pg) : Prop := Fn P Vt B2 () fun (d : Bool) _ => d = true
theorem Vk (h : Has P FG) (hL : Mr P) (hP : N7 P) (hG : GD P) : GG P := by
 refine OB h ?_
 unfold Kn
 have h0 : inR gA 0 := ⟨Int.le_refl _, by decide⟩
 refine (hL (gA, 0) X4 X3 h0).to ?_
 rintro (d : List (List Bm) × Int) _ hd
 obtain ⟨l, e⟩ := d
 have hd : Y1 gA 0 l ∧ e = 0 := hd
 obtain ⟨⟨hl, hk⟩, rfl⟩ := hd
 have hl : l.length = 1 := hl
 have hd0 : l.getD 0 [] = [(([120] : List UInt8), (1 : Int))] := by
  obtain ⟨e, he⟩ := hk 0 (by omega)
  have he : Mo [] [(([120] : List UInt8), ([97] : List UInt8))] (l.getD 0 [], e) := he
  have h1 : e = Jh [] [(([120] : List UInt8), ([97] : List UInt8))] := he.1
  have h2 : Jh [] [(([120] : List UInt8), ([97] : List UInt8))] = 0 := by decide
  exact S9 (he.2.2 (h1.trans h2)) Zk
 refine (hP (gA, (0, (0, [120]))) X4 X3 h0 (Int.le_refl _) (by decide)).to ?_
 rintro (d : Bs × (Bs × Int)) _ hd
 have hd : d = (([] : List UInt8), (([97] : List UInt8), (0 : Int))) := hd.trans (by decide)
 subst hd
 dsimp only
 rw [hl]
 refine ⟨fun _ => ⟨by decide, by decide, by decide, ?_⟩, fun h => absurd h (by decide)⟩
 have h9 : (l.getD 0 []).length ≤ 1000000000 := by rw [hd0]; decide
 refine (hG (l.getD 0 [], [([120], 1)]) h9).to ?_
 rintro (d : Bool) _ hd
 have hd : d = decide (l.getD 0 [] = [(([120] : List UInt8), (1 : Int))]) := hd
 rw [hd0] at hd
 have hd : d = true := hd.trans (by decide)
 subst hd
 rfl
theorem GG.at (h : GG P) {K : Bool → Unit → Prop} (hk : K true ()) : Fn P Vt B2 () K :=
 Fn.to h fun (d : Bool) _ hd => by
  have hd : d = true := hd
  subst hd
  exact hk
end Go.VS
