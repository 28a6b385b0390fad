/- TreeRestores. -/
import Derived.Test.YtbpbcfiodckhjaaDoorKSpL21e
set_option linter.unusedVariables false
set_option linter.unusedSimpArgs false
namespace Go.VS
variable {P : Pg}
theorem AcK {a n : Int} (h0 : 0 ≤ a) (h1 : a < n) (h2 : n ≤ 9223372036854775807) : G3 a n = a := by
 unfold G3
 rw [YV h0 (by omega), YV (by omega) (by omega), Int.tmod_eq_emod_of_nonneg h0, Int.emod_eq_of_lt h0 h1, w64 (by omega) (by omega)]
theorem Acw {a b : List Aw} {d : List A0} (h : GW a b d) {t : A0} (ht : t ∈ d) : t.2 = 1 ∨ t.2 = 2 ∨ t.2 = 3 := by
 have h1 := (h.2 t.1 t.2).1 ht
 unfold JS at h1
 split at h1
 ·exact .inl (Option.some.inj h1).symm
 ·exact .inr (.inl (Option.some.inj h1).symm)
 ·split at h1
  ·cases h1
  ·exact .inr (.inr (Option.some.inj h1).symm)
 ·cases h1
theorem Acz {a b : List Aw} {d : List A0} (h : GW a b d) : d.Pairwise fun x y => x.1 ≠ y.1 :=
 h.1.imp fun {x y} hxy e => by rw [e, DT] at hxy; cases hxy
theorem AcD {a b : List Aw} {d : List A0} (h : GW a b d) : AaL d [] = true :=
 (AaZ d []).2 ⟨fun x hx => by
  have := Acw h hx
  exact ⟨by omega, by omega, fun hm => nomatch hm⟩, Acz h⟩
theorem AcH {a b : List Aw} {t : A0} (h : JS a b t.1 = some t.2) : AaJ a b t = true := by
 unfold JS at h
 unfold AaJ
 cases h1 : AU a t.1 with
 | none =>
  cases h2 : AU b t.1 with
  | none => rw [h1, h2] at h; cases h
  | some v =>
   rw [h1, h2] at h
   have h : (1 : Int) = t.2 := Option.some.inj h
   rw [if_pos h.symm]
   rfl
 | some u =>
  cases h2 : AU b t.1 with
  | none =>
   rw [h1, h2] at h
   have h : (2 : Int) = t.2 := Option.some.inj h
   rw [if_neg (by omega), if_pos h.symm]
   rfl
  | some v =>
   rw [h1, h2] at h
   dsimp only at h
   split at h
   ·cases h
   ·have h : (3 : Int) = t.2 := Option.some.inj h
    rw [if_neg (by omega), if_neg (by omega)]
    rfl
theorem AcE {a b : List Aw} {d : List A0} (h : GW a b d) : d.all (AaJ a b) = true :=
 List.all_eq_true.2 fun t ht => AcH ((h.2 t.1 t.2).1 ht)
theorem AcI {a b : List Aw} {p : Bs} {k : Int} (h : JS a b p = some k) : (if k = 2 then none else some ((AU b p).getD [])) = AU b p := by
 unfold JS at h
 cases h1 : AU a p with
 | none =>
  cases h2 : AU b p with
  | none => rw [h1, h2] at h; cases h
  | some v => rw [h1, h2] at h; cases h; rfl
 | some u =>
  cases h2 : AU b p with
  | none => rw [h1, h2] at h; cases h; rfl
  | some v =>
   rw [h1, h2] at h
   dsimp only at h
   split at h
   ·cases h
   ·cases h; rfl
theorem AcG {a b : List Aw} {p : Bs} (h : JS a b p = none) : AU a p = AU b p := by
 unfold JS at h
 cases h1 : AU a p with
 | none =>
  cases h2 : AU b p with
  | none => rfl
  | some v => rw [h1, h2] at h; cases h
 | some u =>
  cases h2 : AU b p with
  | none => rw [h1, h2] at h; cases h
  | some v =>
   rw [h1, h2] at h
   dsimp only at h
   split at h
   ·rename_i e; rw [e]
   ·cases h
theorem Acy {a b : List Aw} {d : List A0} (h : GW a b d) (p : Bs) : AaP a b d p = AU b p := by
 unfold AaP
 cases hk : JS a b p with
 | none =>
  rw [Abf d b _ fun x hx e => ?_, AcG hk]
  have := (h.2 x.1 x.2).1 hx
  rw [e, hk] at this
  cases this
 | some k =>
  have := Abv d b (AU a) ((h.2 p k).2 hk) (Acz h)
  exact this.trans (AcI hk)
theorem Acv {l : List Aw} (h : Gn l) : AaU (AU l) l := by
 refine ⟨List.pairwise_iff_getElem.2 fun i j hi hj hij => ?_, fun p v => h.QO.symm⟩
 have := (h j hj i hij).1
 unfold pth at this
 rwa [getD_eq hi, getD_eq hj] at this
theorem AcA {a b : List Aw} (ha : Eu a = 0) (hb : Eu b = 0) : Hl a b = 0 := by
 unfold Hl
 rw [if_neg (by simpa using ha)]
 exact hb
theorem AcF {a b : List Aw} {d : List A0} (h : GW a b d) (ha : Eu a = 0) (hb : Eu b = 0) {r : List Aw × Int} (hr : AaK a b d r) : r = (b, 0) := by
 obtain ⟨o, ho, e⟩ := hr.2.2.2 (AcA ha hb) (AcD h) (AcE h)
 have ht := Acv (LV hb)
 have : o = b := Aby (g := AU b) ⟨ho.1, fun p v => by rw [ho.2, Acy h]⟩ ht
 subst this
 rw [e, if_neg (by simpa using hb)]
def swK (k : Int) : Int := if k = 1 then 2 else if k = 2 then 1 else k
theorem AcJ (a b : List Aw) (p : Bs) : JS b a p = (JS a b p).map swK := by
 unfold JS
 cases h1 : AU a p with
 | none => cases h2 : AU b p <;> rfl
 | some u =>
  cases h2 : AU b p with
  | none => rfl
  | some v =>
   dsimp only
   by_cases e : u = v
   ·rw [if_pos e, if_pos e.symm]; rfl
   ·rw [if_neg e, if_neg fun h => e h.symm]; rfl
theorem AcC {a b : List Aw} {d e : List A0} (h : GW a b d) (he : GW b a e) : e = d.map fun t => (t.1, swK t.2) := by
 refine QC he ⟨?_, fun p k => ?_⟩
 ·unfold Xh
  rw [List.pairwise_map]
  exact h.1
 ·rw [AcJ, List.mem_map]
  constructor
  ·rintro ⟨t, ht, e⟩
   cases e
   rw [(h.2 t.1 t.2).1 ht]
   rfl
  ·intro hk
   obtain ⟨j, hj, rfl⟩ := Option.map_eq_some_iff.1 hk
   exact ⟨(p, j), (h.2 p j).2 hj, rfl⟩
theorem AcB {a b : List Aw} {d : List A0} (h : GW a b d) (ha : Eu a = 0) (hb : Eu b = 0) : d = [] ↔ a = b := by
 constructor
 ·rintro rfl
  refine Aby (Acv (LV ha)) ?_
  have ht := Acv (LV hb)
  refine ⟨ht.1, fun p v => ?_⟩
  rw [ht.2, ← Acy h p]
  exact Iff.rfl
 ·rintro rfl
  cases d with
  | nil => rfl
  | cons t r =>
   have h1 := (h.2 t.1 t.2).1 (List.mem_cons_self ..)
   unfold JS at h1
   cases h2 : AU a t.1 with
   | none => rw [h2] at h1; cases h1
   | some v => rw [h2] at h1; dsimp only at h1; rw [if_pos rfl] at h1; cases h1
theorem Acx (h : Has P Acp) (hM : Kx P) (hF : Hs P) (hT : L8 P) (hA : Aa7 P) (hG : AaT P) (hAw : Fu P) (x : List Int) :
  Fn P UM Aco x fun (d : Bool) _ => d = true := by
 refine Acs h ?_
 unfold Acr
 dsimp only
 refine hF.at (by decide) (by decide) (by decide) (by decide) (hF.at (by decide) (by decide) (by decide) (by decide) ?_)
 have ta := Lt (raw := x) (fr := 0) (lines := 2) (by decide) (by decide)
 have tb := Lt (raw := x) (fr := 200) (lines := 2) (by decide) (by decide)
 generalize DS x 0 2 = a at ta ⊢
 generalize DS x 200 2 = b at tb ⊢
 have ha := O1 ta
 have hb := O1 tb
 have ca := Aa0 ta
 have cb := Aa0 tb
 have la := AaV ca
 have lb := AaV cb
 refine (hT (a, b) ha hb).to ?_
 rintro (dd : List A0 × Int) _ hd
 have hd : IU a b dd := hd
 obtain ⟨d, e1⟩ := dd
 have he1 : e1 = 0 := hd.1.trans (AcA ca cb)
 subst he1
 have hd : GW a b d := hd.2.2 rfl
 refine (hT (b, a) hb ha).to ?_
 rintro (bb : List A0 × Int) _ hb2
 have hb2 : IU b a bb := hb2
 obtain ⟨back, e2⟩ := bb
 have he2 : e2 = 0 := hb2.1.trans (AcA cb ca)
 subst he2
 have hbk : GW b a back := hb2.2.2 rfl
 have hbm := AcC hd hbk
 have hdl := Sj hd
 have hdt : ∀ t ∈ d, t.1.length ≤ 140737488351232 := fun t ht => by
  rcases Abt hd ht with ⟨f, hf, e⟩ | ⟨f, hf, e⟩
  ·rw [← e]; exact (ha.2 f hf).1
  ·rw [← e]; exact (hb.2 f hf).1
 refine (hA (a, b, d) ha hb (by dsimp only; omega) hdt).to ?_
 rintro (r : List Aw × Int) _ hr
 have hr : AaK a b d r := hr
 obtain rfl := AcF hd ca cb hr
 dsimp only
 have hnn : ((0 : Int) != 0) = false := rfl
 simp only [hnn, cond_false]
 refine Ar.mid (fun q => q = true) ⟨fun _ => hG.at (by omega) (by simp), fun h => absurd h (by simp), trivial⟩ ?_
 rintro q rfl
 simp only [Bool.not_true, cond_false]
 refine Ar.mid (fun q => q = decide (a = b)) ⟨fun _ => hG.at (by omega) rfl, fun h => absurd h (by simp), trivial⟩ ?_
 rintro q rfl
 have hlen : back.length = d.length := by rw [hbm, List.length_map]
 have hz : ((((d.length : Nat) : Int) == 0) == decide (a = b)) = true := by
  by_cases e : a = b
  ·have := (AcB hd ca cb).2 e
   subst this
   rw [decide_eq_true e]; rfl
  ·have hne : d ≠ [] := fun h => e ((AcB hd ca cb).1 h)
   have := List.length_pos_iff.2 hne
   rw [decide_eq_false e, beq_eq_false_iff_ne.2 (show ((d.length : Nat) : Int) ≠ 0 by omega)]
   rfl
 rw [hz, hlen]
 simp only [Bool.not_true, cond_false]
 refine ⟨fun h => absurd h (by simp), fun _ => ?_⟩
 refine Ar.mid (fun _ => True) ?_ fun _ _ => hAw.at rfl
 refine BU.of (fun q => 0 ≤ q.2 ∧ q.2 ≤ d.length) (fun q => (d.length - q.2).toNat) ⟨Int.le_refl _, Int.natCast_nonneg _⟩ ?_
 rintro ⟨q, i⟩ ⟨i0, i1⟩
 dsimp only at i0 i1 ⊢
 refine ⟨fun hi => ?_, fun _ => trivial⟩
 have hi := of_decide_eq_true hi
 have hi2 : i.toNat < d.length := by omega
 have hbi : back.getD i.toNat ([], 0) = ((d.getD i.toNat ([], 0)).1, swK (d.getD i.toNat ([], 0)).2) := by
  rw [hbm, getD_eq (by rw [List.length_map]; exact hi2), getD_eq hi2, List.getElem_map]
 have hkd := Acw hd (D8 (d := ([], 0)) hi2)
 have hsrt : 0 < i → Op.bytesLess (d.getD (i.toNat - 1) ([], 0)).1 (d.getD i.toNat ([], 0)).1 = true := fun h0 => by
  have := List.pairwise_iff_getElem.1 hd.1 (i.toNat - 1) i.toNat (by omega) hi2 (by omega)
  rw [getD_eq (by omega), getD_eq hi2]
  exact this
 refine Ar.mid (fun _ => True) ?_ fun _ _ => ?_
 ·refine ⟨⟨i0, hi⟩, hi2, hM.at (by decide) (by decide) ?_⟩
  rw [hbi, AcK (by omega) (by omega) (by decide)]
  have hw : List.getD ([0, 2, 1, 3] : List Int) (d.getD i.toNat ([], 0)).2.toNat 0 = swK (d.getD i.toNat ([], 0)).2 := by
   rcases hkd with h | h | h <;> rw [h] <;> rfl
  rw [hw]
  have hl4 : ((List.length ([0, 2, 1, 3] : List Int) : Nat) : Int) = 4 := rfl
  have hl5 : List.length ([0, 2, 1, 3] : List Int) = 4 := rfl
  rw [hl4, hl5]
  have hne : (swK (d.getD i.toNat ([], 0)).2 != swK (d.getD i.toNat ([], 0)).2) = false := by simp
  simp only [beq_self_eq_true, Bool.not_true, hne, cond_false]
  have hlast : (cond (decide (i > 0)) (Op.bytesLess (d.getD i.toNat ([], 0)).1 (d.getD (IntKind.i64.wrap (i - 1)).toNat ([], 0)).1 || ((d.getD i.toNat ([], 0)).1 == (d.getD (IntKind.i64.wrap (i - 1)).toNat ([], 0)).1)) false) = false := by
   by_cases h0 : i > 0
   ·rw [decide_eq_true h0, cond_true, w64 (by omega) (by omega), show (i - 1).toNat = i.toNat - 1 by omega]
    have h1 := hsrt h0
    rw [Bool.or_eq_false_iff]
    refine ⟨?_, beq_eq_false_iff_ne.2 fun e => ?_⟩
    ·cases h2 : Op.bytesLess (d.getD i.toNat ([], 0)).1 (d.getD (i.toNat - 1) ([], 0)).1 with
     | false => rfl
     | true =>
      have := ES h1 h2
      rw [DT] at this
      cases this
    ·rw [e, DT] at h1
     cases h1
   ·rw [decide_eq_false h0]; rfl
  rw [hlast]
  refine ⟨⟨by omega, by omega⟩, by omega, ⟨i0, hi⟩, hi2, ⟨i0, hi⟩, hi2, fun _ => ⟨i0, hi⟩, fun _ => hi2, fun _ _ => ⟨i0, hi⟩, fun _ _ => hi2, fun hc _ => ?_, fun hc _ => ?_, fun h => absurd h (by simp), fun _ => trivial⟩
  ·have hc := of_decide_eq_true hc
   rw [w64 (by omega) (by omega)]
   omega
  ·have hc := of_decide_eq_true hc
   rw [w64 (by omega) (by omega)]
   omega
 ·rw [w64 (by omega) (by omega)]
  exact ⟨⟨by omega, by omega⟩, by omega⟩
end Go.VS
