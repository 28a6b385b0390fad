/- TreeDiffs. -/
import Derived.Test.YtbpbcfiodckhjaaDoorKSpEq
import Derived.Test.YtbpbcfiodckhjaaDoorKSpL21b
set_option linter.unusedVariables false
set_option linter.unusedSimpArgs false
namespace Go.VS
variable {P : Pg}
theorem OK {α : Type} [DecidableEq α] : ∀ {l m : List α}, l.Nodup → (∀ x ∈ l, x ∈ m) → l.length ≤ m.length
 | [], _, _, _ => Nat.zero_le _
 | a :: l, m, hn, hs => by
  have h2 := List.nodup_cons.1 hn
  have ha := hs a (List.mem_cons_self ..)
  have ih := OK (m := m.erase a) h2.2 fun x hx => (List.mem_erase_of_ne (show x ≠ a from fun e => h2.1 (by rw [← e]; exact hx))).2 (hs x (List.mem_cons_of_mem _ hx))
  rw [List.length_erase_of_mem ha] at ih
  have := List.length_pos_of_mem ha
  rw [List.length_cons]
  omega
def IU (a b : List Aw) (d : List A0 × Int) : Prop := d.2 = Hl a b ∧ (d.2 ≠ 0 → d.1 = []) ∧ (d.2 = 0 → GW a b d.1)
theorem Of {a b : List Aw} {d e : List A0 × Int} (hd : IU a b d) (he : IU a b e) : d = e := by
 obtain ⟨d1, d2, d3⟩ := hd
 obtain ⟨e1, e2, e3⟩ := he
 by_cases h : Hl a b = 0
 ·exact Prod.ext (QC (d3 (by omega)) (e3 (by omega))) (by rw [d1, e1])
 ·exact Prod.ext (by rw [d2 (by omega), e2 (by omega)]) (by rw [d1, e1])
theorem Sj {a b : List Aw} {d : List A0} (h : GW a b d) : d.length ≤ a.length + b.length := by
 have hn : (d.map (·.1)).Nodup := by
  rw [List.nodup_iff_pairwise_ne, List.pairwise_map]
  refine h.1.imp fun {x y} hxy e => ?_
  rw [e, DT] at hxy
  cases hxy
 have hs : ∀ p ∈ d.map (·.1), p ∈ (a ++ b).map (·.1) := fun p hp => by
  obtain ⟨t, ht, rfl⟩ := List.mem_map.1 hp
  have := (h.2 t.1 t.2).1 ht
  unfold JS at this
  rw [List.map_append, List.mem_append]
  cases h1 : AU a t.1 with
  | some v =>
   obtain ⟨f, hf, e⟩ := (CN a t.1).1 (by rw [h1]; rfl)
   exact .inl (List.mem_map.2 ⟨f, hf, e⟩)
  | none =>
   cases h2 : AU b t.1 with
   | some v =>
    obtain ⟨f, hf, e⟩ := (CN b t.1).1 (by rw [h2]; rfl)
    exact .inr (List.mem_map.2 ⟨f, hf, e⟩)
   | none => rw [h1, h2] at this; cases this
 have := OK hn hs
 rw [List.length_map, List.length_map, List.length_append] at this
 exact this
theorem Mn {a b : List Aw} {d : List A0 × Int} (h : IU a b d) : d.1.length ≤ a.length + b.length := by
 by_cases h0 : d.2 = 0
 ·exact Sj (h.2.2 h0)
 ·rw [h.2.1 h0]; exact Nat.zero_le _
theorem PN (h : Has P Dj) (hS : IZ P) (hF : Hs P) (hT : L8 P) (hR : IX P) (hG : Ft P) (hAw : Fu P) (x : List Int × (List Aw × List Aw)) :
  Fn P Yn A4 x fun (d : Bool) _ => d = true := by
 obtain ⟨raw, l, m⟩ := x
 refine I6 h ?_
 unfold Ga
 dsimp only
 refine (hS l).to ?_
 rintro (b1 : Bool) _ hb1
 refine Ar.mid (fun d => b1 = true → d = true → Ns m) ⟨fun _ => (hS m).to fun (d : Bool) _ hd _ => hd, fun _ _ h => (nomatch h), trivial⟩ ?_
 intro b2 hb2
 refine ⟨fun _ => hAw.at rfl, fun hc => ?_⟩
 have hc : b1 = true ∧ b2 = true := by cases b1 <;> cases b2 <;> simp at hc ⊢
 have hl := (hb1 hc.1).CH
 have hm := (hb2 hc.1 hc.2).CH
 have hl8 := (hb1 hc.1).1
 have hm8 := (hb2 hc.1 hc.2).1
 clear hb1 hb2 hc
 refine hF.at (by decide) (by decide) (by decide) (by decide) (hF.at (by decide) (by decide) (by decide) (by decide) ?_)
 have ha := O1 (Lt (raw := raw) (fr := 0) (lines := 2) (by decide) (by decide))
 have hb := O1 (Lt (raw := raw) (fr := 200) (lines := 2) (by decide) (by decide))
 refine (hT (DS raw 0 2, DS raw 200 2) ha hb).to ?_
 rintro (x : List A0 × Int) _ hx
 refine (hR (DS raw 0 2, DS raw 200 2) ha hb).to ?_
 rintro (y : List A0 × Int) _ hy
 have hx : IU (DS raw 0 2) (DS raw 200 2) x := hx
 have hy : IU (DS raw 0 2) (DS raw 200 2) y := hy
 have hxl := Mn hx
 have ha1 := ha.1
 have hb1 := hb.1
 obtain rfl := Of hx hy
 refine (hT (l, m) hl hm).to ?_
 rintro (u : List A0 × Int) _ hu
 refine (hR (l, m) hl hm).to ?_
 rintro (v : List A0 × Int) _ hv
 have hu : IU l m u := hu
 have hv : IU l m v := hv
 have hul := Mn hu
 obtain rfl := Of hu hv
 refine hG.at (by omega) ?_
 simp only [beq_self_eq_true, cond_true, decide_true]
 refine Ar.mid (fun d => d = true) ⟨fun _ => hG.at (by omega) (by simp), fun h => absurd h (by simp), trivial⟩ ?_
 rintro d rfl
 simp only [cond_true]
 refine Ar.mid (fun d => d = true) ⟨fun _ => hAw.at rfl, fun h => absurd h (by simp), trivial⟩ ?_
 rintro d rfl
 rfl
end Go.VS
