/- The laws on ancestors, from what Bases and Independent answer. -/
import Derived.Test.YtdnomijflodcgaaDoorKSpAncA
import Derived.Test.YtdnomijflodcgaaDoorKSpGr3
import Derived.Test.YtdnomijflodcgaaDoorKSpL26a
import Derived.Test.YtdnomijflodcgaaDoorKSpInts
set_option linter.unusedVariables false
set_option linter.unusedSimpArgs false
namespace Go.VS
variable {P : Pg}
def AeT (P : Pg) : Prop := ∀ x : List Aq × (Int × Int), MR x.1 → Fn P AaC Aen x fun (d : List Int × Int) _ => Aev x.1 x.2.1 x.2.2 d
def AfC (P : Pg) : Prop := ∀ x : List Aq × List Int, MR x.1 → x.2.length ≤ 1000000 → Fn P AaD Aep x fun (d : List Int × Int) _ => Afz x.1 x.2 d
theorem Afi.good {α : Type} {g : List Aq} {ok : Prop} {z : α} {good : α → Prop} {d : α × Int} (h : Afi g ok z good d) (h0 : DF g 0) (hok : ok) : good d.1 ∧ d.2 = 0 := by
 obtain ⟨e, he, _, _, h4⟩ := h
 exact h4 (IE he h0) hok
theorem Afi.bad {α : Type} {g : List Aq} {ok : Prop} {z : α} {good : α → Prop} {d : α × Int} (h : Afi g ok z good d) {e : Int} (he : DF g e) (hne : e ≠ 0) : d.2 = e := by
 obtain ⟨k, hk, h1, _⟩ := h
 have := IE hk he
 subst this
 rw [h1 hne]
def gB : List Aq := [([], (0, [])), ([0], (5, [])), ([0], (7, []))]
theorem AgV {c : Int} (h : inR gB c) : c = 0 ∨ c = 1 ∨ c = 2 := by
 have h1 := h.1
 have h2 : c < 3 := h.2
 omega
theorem AfF {c p : Int} (hc : inR gB c) (h : p ∈ BF gB c) : p = 0 ∧ c ≠ 0 := by
 rcases AgV hc with rfl | rfl | rfl
 ·exact nomatch (show p ∈ ([] : List Int) from h)
 ·exact ⟨List.mem_singleton.1 h, by decide⟩
 ·exact ⟨List.mem_singleton.1 h, by decide⟩
theorem Agw : DF gB 0 := by
 have hm : ∀ c ∈ gB, c = ([], (0, [])) ∨ c = ([0], (5, [])) ∨ c = ([0], (7, [])) := fun c hc => by simpa [gB] using hc
 have hr : HN gB := fun c hc j hj => by
  rcases hm c hc with rfl | rfl | rfl
  ·exact absurd hj (by simp)
  ·have : j = 0 := by simpa using hj
   subst this
   exact ⟨by decide, by decide⟩
  ·have : j = 0 := by simpa using hj
   subst this
   exact ⟨by decide, by decide⟩
 refine SB ⟨by decide, fun c hc => ?_⟩ hr (AcO (Fq hr) (fun x => x) fun c hc p hp => ?_) (fun c hc => ?_) ?_
 ·rcases hm c hc with rfl | rfl | rfl <;> decide
 ·obtain ⟨h1, h2⟩ := AfF hc hp
  have := hc.1
  show p < c
  omega
 ·rcases hm c hc with rfl | rfl | rfl <;> decide
 ·exact (Qo fun c hc => by rcases hm c hc with rfl | rfl | rfl <;> decide).symm
theorem Agx : MR gB := fun c hc f hf => by
 have : c.2.2 = [] := by
  have hm : c = ([], (0, [])) ∨ c = ([0], (5, [])) ∨ c = ([0], (7, [])) := by simpa [gB] using hc
  rcases hm with rfl | rfl | rfl <;> rfl
 rw [this] at hf
 cases hf
theorem Af6 {a x : Int} (ha : inR gB a) (h : Rch gB a x) : x = a ∨ x = 0 := by
 cases h with
 | refl => exact .inl rfl
 | step hp t =>
  obtain ⟨rfl, _⟩ := AfF ha hp
  cases t with
  | refl => exact .inr rfl
  | step hq _ => exact absurd rfl (AfF (c := 0) ⟨by decide, by decide⟩ hq).2
theorem AfG {a : Int} (ha : a = 1 ∨ a = 2) : Rch gB a 0 := by
 rcases ha with rfl | rfl
 ·exact .step (p := 0) (List.mem_singleton_self _) (.refl 0)
 ·exact .step (p := 0) (List.mem_singleton_self _) (.refl 0)
def AeH (P : Pg) : Prop := Fn P zS5 Ael () fun (d : Bool) _ => d = true
theorem Agb (h : Has P Aez) (hB : AeT P) (hI : AfC P) (hT : AeU P) : AeH P := by
 refine Afk h ?_
 unfold AeW
 have i1 : inR gB 1 := ⟨by decide, by decide⟩
 have i2 : inR gB 2 := ⟨by decide, by decide⟩
 have i0 : inR gB 0 := ⟨by decide, by decide⟩
 refine (hB (gB, (1, 2)) Agx).to ?_
 rintro (d : List Int × Int) _ hd
 obtain ⟨d, e⟩ := d
 have hd : Aev gB 1 2 (d, e) := hd
 unfold Aev at hd
 obtain ⟨⟨L, hL, hd⟩, he⟩ := hd.good Agw ⟨i1, i2⟩
 have he : e = 0 := he
 subst he
 have hL0 : L = [0] := Ae0 hL (Afn (p := fun x => x = 0) (List.pairwise_singleton _ _) fun x => by
  rw [List.mem_singleton]
  exact ⟨fun h => ⟨h ▸ i0, h⟩, fun h => h.2⟩) fun x hx => ⟨fun h => by
   have h1 := Af6 i1 h.1
   have h2 := Af6 i2 h.2
   omega, fun h => by rw [h]; exact ⟨AfG (.inl rfl), AfG (.inr rfl)⟩⟩
 subst hL0
 have hd0 : d = [0] := AeZ hd ⟨fun _ => true, fun x hx => ⟨fun _ => by
  rintro ⟨f, hf, hne, _⟩
  rw [List.mem_singleton] at hx hf
  exact hne (hf.trans hx.symm), fun _ => rfl⟩, rfl⟩
 subst hd0
 refine (hI (gB, [0, 1, 2]) Agx (by decide)).to ?_
 rintro (d : List Int × Int) _ hd
 obtain ⟨d, e⟩ := d
 have hd : Afz gB [0, 1, 2] (d, e) := hd
 unfold Afz at hd
 have hm : ∀ x ∈ ([0, 1, 2] : List Int), inR gB x := fun x hx => by
  have : x = 0 ∨ x = 1 ∨ x = 2 := by simpa using hx
  rcases this with rfl | rfl | rfl <;> assumption
 obtain ⟨⟨L, hL, hd⟩, he⟩ := hd.good Agw hm
 have he : e = 0 := he
 subst he
 have hL0 : L = [0, 1, 2] := Ae0 hL (Afn (p := fun x => x ∈ ([0, 1, 2] : List Int)) (by decide) fun x => ⟨fun h => ⟨hm x h, h⟩, fun h => h.2⟩) fun x hx => Iff.rfl
 subst hL0
 have hd0 : d = [1, 2] := AeZ hd ⟨fun x => decide (x ≠ 0), fun x hx => by
  rw [decide_eq_true_eq]
  constructor
  ·rintro h0 ⟨f, hf, hne, hr⟩
   rcases Af6 (hm f hf) hr with h | h
   ·exact hne h.symm
   ·exact h0 h
  ·rintro h rfl
   exact h ⟨1, by decide, by decide, AfG (.inl rfl)⟩, rfl⟩
 subst hd0
 dsimp only
 refine ⟨fun _ => ?_, fun hb => absurd hb (by decide)⟩
 refine (hT ([0], [0]) (by decide)).to ?_
 rintro (d : Bool) _ hd
 have hd : d = true := hd.2 rfl
 subst hd
 refine ⟨fun _ => ?_, fun hb => absurd hb (by decide)⟩
 refine (hT ([1, 2], [1, 2]) (by decide)).to ?_
 rintro (d : Bool) _ hd
 have hd : d = true := hd.2 rfl
 subst hd
 rfl
theorem AeH.at (h : AeH P) {K : Bool → Unit → Prop} (hk : K true ()) : Fn P zS5 Ael () K :=
 Fn.to h fun (d : Bool) _ hd => by
  have hd : d = true := hd
  subst hd
  exact hk
theorem Ah0 (h : Has P Ahm) (hR : AhP P) (hA : AhY P) (hIs : Ah5 P) (hB : AeT P) (hI : AfC P) (hAw : AeH P) (x : List Aq × (Int × Int)) (gx : (tyP Ahh.ps).Good x) :
  Fn P AaN Ahh x fun (d : Bool) _ => d = true := by
 obtain ⟨g, a, b⟩ := x
 obtain ⟨gg, _⟩ := gx
 have hs : MR g := Aiy gg
 refine AhI h ?_
 unfold Ahx
 dsimp only
 refine Ai.mid (fun e => ((g.length : Nat) : Int) > 6 ∨ DF g e) ⟨fun hb => (hR g (by have := of_decide_eq_false hb; omega) hs).to fun (e : Int) _ he => .inr he, fun hb => .inl (of_decide_eq_true hb), trivial⟩ fun e he => ⟨fun _ => hAw.at rfl, fun hb => ?_⟩
 have hsm : ¬((g.length : Nat) : Int) > 6 := fun k => by rw [decide_eq_true k] at hb; cases hb
 rw [decide_eq_false hsm, cond_false] at hb
 have he := he.resolve_left hsm
 have hne : e ≠ 0 := by simpa using hb
 refine (hR g (by omega) hs).to ?_
 rintro (e' : Int) _ he'
 have := IE (show DF g e' from he') he
 subst this
 refine (hA (g, a) hs).to ?_
 rintro (d1 : List Int × Int) _ h1
 have h1 : d1.2 = e' := Afi.bad (show Aiw g a d1 from h1) he hne
 refine (hIs (g, (a, b)) hs).to ?_
 rintro (d2 : Bool × Int) _ h2
 have h2 : d2.2 = e' := Afi.bad (show AiE g a b d2 from h2) he hne
 refine (hB (g, (a, b)) hs).to ?_
 rintro (d3 : List Int × Int) _ h3
 have h3 : d3.2 = e' := Afi.bad (show Aev g a b d3 from h3) he hne
 refine (hI (g, [a]) hs (by simp)).to ?_
 rintro (d4 : List Int × Int) _ h4
 have h4 : d4.2 = e' := Afi.bad (show Afz g [a] d4 from h4) he hne
 rw [h1, h2, h3, h4, beq_self_eq_true]
 refine Ai.mid (fun d => d = true) ⟨fun _ => hAw.at rfl, fun hb => absurd hb (by decide), trivial⟩ ?_
 rintro d rfl
 rfl
end Go.VS
