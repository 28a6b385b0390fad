/- TreeApplies. -/
import Derived.Test.YtbpbcfiodckhjaaDoorKSpL21c
import Derived.Test.YtbpbcfiodckhjaaDoorKSpAppR
set_option linter.unusedVariables false
set_option linter.unusedSimpArgs false
namespace Go.VS
variable {P : Pg}
theorem Aa9 {a b : List Aw} {d : List A0} {r : List Aw × Int} (h : AaK a b d r) : r.1.length ≤ 200 := by
 by_cases h1 : Hl a b = 0
 ·cases h2 : AaL d [] with
  | false => rw [h.2.1 h1 h2]; exact Nat.zero_le _
  | true =>
   cases h3 : d.all (AaJ a b) with
   | false => rw [h.2.2.1 h1 h2 h3]; exact Nat.zero_le _
   | true =>
    obtain ⟨o, ho, e⟩ := h.2.2.2 h1 h2 h3
    rw [e]
    split
    ·exact Nat.zero_le _
    ·rename_i hc
     exact AaV (l := o) (by omega)
 ·rw [h.1 h1]; exact Nat.zero_le _
theorem Abt {a b : List Aw} {d : List A0} (h : GW a b d) {t : A0} (ht : t ∈ d) : (∃ f ∈ a, f.1 = t.1) ∨ ∃ f ∈ b, f.1 = t.1 := by
 have h1 := (h.2 t.1 t.2).1 ht
 unfold JS at h1
 cases h2 : AU a t.1 with
 | some v => exact .inl ((CN a t.1).1 (by rw [h2]; rfl))
 | none =>
  cases h3 : AU b t.1 with
  | some v => exact .inr ((CN b t.1).1 (by rw [h3]; rfl))
  | none => rw [h2, h3] at h1; cases h1
theorem Abl (h : Has P AaI) (hM : Kx P) (hF : Hs P) (hD : IW P) (hT : Aa7 P) (hR : Aa6 P) (hG : AaT P) (hAw : Fu P) (x : List Int × (List Bool × (List A0 × Int))) (gx : (tyP AaF.ps).Good x) :
  Fn P Wb AaF x fun (d : Bool) _ => d = true := by
 obtain ⟨raw, picks, l, by_⟩ := x
 obtain ⟨_, _, gl, _⟩ := gx
 have glt : ∀ t ∈ l, t.1.length ≤ 140737488351232 := fun t ht => (gl.2 t ht).1
 refine AaW h ?_
 unfold AaQ
 dsimp only
 refine ⟨fun _ => hAw.at rfl, fun hc => ?_⟩
 have hl := of_decide_eq_false hc
 refine hF.at (by decide) (by decide) (by decide) (by decide) (hF.at (by decide) (by decide) (by decide) (by decide) ?_)
 have ta := Lt (raw := raw) (fr := 0) (lines := 2) (by decide) (by decide)
 have tb := Lt (raw := raw) (fr := 200) (lines := 2) (by decide) (by decide)
 generalize DS raw 0 2 = a at ta ⊢
 generalize DS raw 200 2 = b at tb ⊢
 have ha := O1 ta
 have hb := O1 tb
 have ha2 := AaV (Aa0 ta)
 have hb2 := AaV (Aa0 tb)
 refine (hD (a, b) ha hb (LV (Aa0 ta)) (LV (Aa0 tb))).to ?_
 rintro (d : List A0) _ hd
 have hd : GW a b d := hd
 have hdl := Sj hd
 have hdt : ∀ t ∈ d, t.1.length ≤ 140737488351232 := fun t ht => by
  rcases Abt hd ht with ⟨f, hf, e⟩ | ⟨f, hf, e⟩
  ·rw [← e]; exact (ha.2 f hf).1
  ·rw [← e]; exact (hb.2 f hf).1
 clear hd
 refine Ar.mid (fun q => q.length ≤ d.length ∧ ∀ t ∈ q, t.1.length ≤ 140737488351232) ?_ ?_
 ·refine BU.of (fun q => (0 ≤ q.2 ∧ q.2 ≤ d.length) ∧ (q.1.length : Int) ≤ q.2 ∧ ∀ t ∈ q.1, t.1.length ≤ 140737488351232) (fun q => (d.length - q.2).toNat) ⟨⟨Int.le_refl _, Int.natCast_nonneg _⟩, Int.le_refl _, fun t ht => nomatch ht⟩ ?_
  rintro ⟨o, i⟩ ⟨⟨i0, i1⟩, ho, hot⟩
  dsimp only at i0 i1 ho hot ⊢
  refine ⟨fun hi => ?_, fun hi => ⟨by omega, hot⟩⟩
  have hi := of_decide_eq_true hi
  have hi2 : i.toNat < d.length := by omega
  refine Ar.mid (fun q => (q.length : Int) ≤ i + 1 ∧ ∀ t ∈ q, t.1.length ≤ 140737488351232) ⟨fun hc => ⟨i0, of_decide_eq_true hc⟩, fun hc => by have := of_decide_eq_true hc; omega, ?_⟩ fun q hq => ?_
  ·refine Ar.mid (fun q => (q.length : Int) ≤ i + 1 ∧ ∀ t ∈ q, t.1.length ≤ 140737488351232) ⟨fun _ => ⟨⟨i0, hi⟩, hi2, by simp only [List.length_cons, List.length_nil]; omega, by rw [List.length_append]; simp only [List.length_cons, List.length_nil]; omega, fun t ht => ?_⟩, fun _ => ⟨by omega, hot⟩⟩ fun _ h => h
   rcases List.mem_append.1 ht with ht | ht
   ·exact hot t ht
   ·rw [List.mem_singleton.1 ht]; exact hdt _ (D8 hi2)
  ·rw [w64 (by omega) (by omega)]
   exact ⟨⟨⟨by omega, by omega⟩, hq.1, hq.2⟩, by omega⟩
 rintro s1 ⟨hs1, ht1⟩
 refine ⟨fun _ => by decide, ?_⟩
 refine Ar.mid (fun q => q.length ≤ d.length ∧ ∀ t ∈ q, t.1.length ≤ 140737488351232) ⟨fun hc => ?_, fun _ => ⟨hs1, ht1⟩⟩ ?_
 ·have hpos : 0 < s1.length := by
   rw [Bool.cond_eq_ite] at hc
   split at hc
   ·rename_i h1; have := of_decide_eq_true h1; omega
   ·cases hc
  have hr := G4 (a := by_) (n := (s1.length : Int)) (by omega) (by omega)
  refine hM.at (by omega) (by omega) ⟨by decide, hM.at (by decide) (by decide) ⟨hr, by omega, by rw [List.length_set]; exact hs1, fun t ht => ?_⟩⟩
  obtain ⟨j, hj⟩ := List.getElem?_of_mem ht
  rw [List.getElem?_set] at hj
  split at hj
  ·split at hj
   ·cases hj
    exact ht1 (s1.getD (G3 by_ (s1.length : Int)).toNat ([], 0)) (D8 (by omega))
   ·cases hj
  ·exact ht1 t (List.mem_of_getElem? hj)
 rintro s2 ⟨hs2, ht2⟩
 refine ⟨fun _ => by decide, ?_⟩
 refine Ar.mid (fun q => q.length ≤ d.length + 1 ∧ ∀ t ∈ q, t.1.length ≤ 140737488351232) ⟨fun hc => ?_, fun _ => ⟨by omega, ht2⟩⟩ ?_
 ·have hpos : 0 < s2.length := by
   rw [Bool.cond_eq_ite] at hc
   split at hc
   ·rename_i h1; have := of_decide_eq_true h1; omega
   ·cases hc
  refine ⟨⟨by decide, by omega⟩, hpos, by simp only [List.length_cons, List.length_nil]; omega, by rw [List.length_append]; simp only [List.length_cons, List.length_nil]; omega, fun t ht => ?_⟩
  rcases List.mem_append.1 ht with ht | ht
  ·exact ht2 t ht
  ·rw [List.mem_singleton.1 ht]; exact ht2 _ (D8 hpos)
 rintro s3 ⟨hs3, ht3⟩
 refine (hT (a, b, s3) ha hb (by dsimp only; omega) ht3).to ?_
 rintro (x : List Aw × Int) _ hx
 refine (hR (a, b, s3) ha hb (by dsimp only; omega) ht3).to ?_
 rintro (y : List Aw × Int) _ hy
 have hx : AaK a b s3 x := hx
 have hy : AaK a b s3 y := hy
 have hxl := Aa9 hx
 obtain rfl := Aa5 hx hy
 refine (hT (a, b, l) ha hb (by dsimp only; omega) glt).to ?_
 rintro (u : List Aw × Int) _ hu
 refine (hR (a, b, l) ha hb (by dsimp only; omega) glt).to ?_
 rintro (v : List Aw × Int) _ hv
 have hu : AaK a b l u := hu
 have hv : AaK a b l v := hv
 have hul := Aa9 hu
 obtain rfl := Aa5 hu hv
 refine hG.at (by omega) ?_
 simp only [beq_self_eq_true, cond_true, decide_true]
 refine Ar.mid (fun d => d = true) ⟨fun _ => hG.at (by omega) (by simp), fun h => absurd h (by simp), trivial⟩ ?_
 rintro d rfl
 simp only [cond_true]
 refine Ar.mid (fun d => d = true) ⟨fun _ => hAw.at rfl, fun h => absurd h (by simp), trivial⟩ ?_
 rintro d rfl
 rfl
end Go.VS
