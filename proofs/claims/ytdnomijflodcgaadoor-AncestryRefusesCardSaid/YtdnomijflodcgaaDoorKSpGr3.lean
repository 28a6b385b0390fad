/- Graphs made of raw numbers are valid. -/
import Derived.Test.YtdnomijflodcgaaDoorKSpChg
import Derived.Test.YtdnomijflodcgaaDoorKSpDiff3
import Derived.Test.YtdnomijflodcgaaDoorKSpLn
import Derived.Test.YtdnomijflodcgaaDoorKSpTxt
set_option linter.unusedVariables false
set_option linter.unusedSimpArgs false
namespace Go.VS
variable {P : Pg}
theorem Z9 {g : List Aq} (hv : Vl g) (f : Int → Int) (h : ∀ c, inR g c → ∀ p ∈ BF g c, f p < f c) {a b : Int} (hr : Rch g a b) : inR g a → f b ≤ f a := by
 induction hr with
 | refl c => exact fun _ => Int.le_refl _
 | step hm t ih =>
  intro ha
  have h1 := h _ ha _ hm
  have h2 := ih (hv _ ha _ hm)
  omega
theorem AcO {g : List Aq} (hv : Vl g) (f : Int → Int) (h : ∀ c, inR g c → ∀ p ∈ BF g c, f p < f c) : ¬L8 g := by
 rintro ⟨c, hc, p, hp, hr⟩
 have h1 := h c hc p hp
 have h2 := Z9 hv f h hr (hv c hc p hp)
 omega
theorem Qo : ∀ {g : List Aq}, (∀ c ∈ g, Ex c.2.2 = 0) → HF g = 0
 | [], _ => rfl
 | c :: g, h => by
  rw [HF, if_neg (by simpa using h c (List.mem_cons_self ..))]
  exact Qo fun x hx => h x (List.mem_cons_of_mem _ hx)
end Go.VS
