/- TreeOrder. -/
import Derived.Test.YtbpbcfiodckhjaaDoorKSpL21f
set_option linter.unusedVariables false
set_option linter.unusedSimpArgs false
namespace Go.VS
variable {P : Pg}
theorem AcR {a b : List Aw} {d : List A0} {p : Bs} (h : ∀ x ∈ d, x.1 ≠ p) : AaP a b d p = AU a p := by
 unfold AaP
 exact Abf d b _ h
theorem AcS {a b : List Aw} {d : List A0} {x : A0} (h : x ∈ d) (hn : d.Pairwise fun x y => x.1 ≠ y.1) : AaP a b d x.1 = if x.2 = 2 then none else some ((AU b x.1).getD []) := by
 unfold AaP
 exact Abv d b _ h hn
theorem AcW {a o b : List Aw} {p : Bs} (h : AU o p = AU a p) : JS o b p = JS a b p := by
 unfold JS
 rw [h]
theorem AcZ {p : Bs} (h : p ∈ Jc) : ∃ i, i < 4 ∧ Jc.getD i [] = p := by
 obtain ⟨i, hi⟩ := List.getElem?_of_mem h
 obtain ⟨hl, he⟩ := List.getElem?_eq_some_iff.1 hi
 exact ⟨i, hl, by rw [getD_eq hl]; exact he⟩
theorem AcV {l : List Aw} (h : Xq l) {p v : Bs} (hm : (p, v) ∈ l) : p ∈ Jc ∧ v.length ≤ 4000 := by
 obtain ⟨q, hq, rfl⟩ := h
 obtain ⟨i, hi, he⟩ := List.mem_filterMap.1 hm
 obtain ⟨u, hu, e⟩ := Option.map_eq_some_iff.1 he
 cases e
 exact ⟨D8 (by have := List.mem_range.1 hi; exact this), hq i _ hu⟩
theorem AcY {g : Bs → Option Bs} {l : List Aw} (h : AaU g l) (hg : ∀ p v, g p = some v → p ∈ Jc ∧ v.length ≤ 4000) : Xq l := by
 have ht : Xq ((List.range 4).filterMap fun i => (g (Jc.getD i [])).map fun v => (Jc.getD i [], v)) := ⟨fun i => g (Jc.getD i []), fun i v hv => (hg _ _ hv).2, rfl⟩
 have : l = (List.range 4).filterMap fun i => (g (Jc.getD i [])).map fun v => (Jc.getD i [], v) := by
  refine Aby h ⟨(Acv (LV (Aa0 ht))).1, fun p v => ?_⟩
  rw [List.mem_filterMap]
  constructor
  ·rintro ⟨i, _, he⟩
   obtain ⟨u, hu, e⟩ := Option.map_eq_some_iff.1 he
   cases e
   exact hu
  ·intro hp
   obtain ⟨i, hi, he⟩ := AcZ (hg p v hp).1
   exact ⟨i, List.mem_range.2 hi, by rw [he, hp]; rfl⟩
 rw [this]
 exact ht
theorem AcU {a b : List Aw} {d : List A0} (ta : Xq a) (tb : Xq b) (hk : ∀ t ∈ d, JS a b t.1 = some t.2) (hn : d.Pairwise fun x y => x.1 ≠ y.1) {r : List Aw × Int} (hr : AaK a b d r) :
  r.2 = 0 ∧ Xq r.1 ∧ AaU (AaP a b d) r.1 := by
 have ca := Aa0 ta
 have cb := Aa0 tb
 have hp : AaL d [] = true := (AaZ d []).2 ⟨fun x hx => by
  have h1 := hk x hx
  have : x.2 = 1 ∨ x.2 = 2 ∨ x.2 = 3 := by
   unfold JS at h1
   split at h1
   ·exact .inl (Option.some.inj h1).symm
   ·exact .inr (.inl (Option.some.inj h1).symm)
   ·split at h1
    ·cases h1
    ·exact .inr (.inr (Option.some.inj h1).symm)
   ·cases h1
  exact ⟨by omega, by omega, fun hm => nomatch hm⟩, hn⟩
 obtain ⟨o, ho, e⟩ := hr.2.2.2 (AcA ca cb) hp (List.all_eq_true.2 fun t ht => AcH (hk t ht))
 have h4 : Xq o := AcY ho fun p v hv => by
  by_cases hm : ∃ x ∈ d, x.1 = p
  ·obtain ⟨x, hx, rfl⟩ := hm
   have h2 : AaP a b d x.1 = AU b x.1 := (AcS hx hn).trans (AcI (hk x hx))
   rw [h2] at hv
   exact AcV tb (Aa4 hv)
  ·have h2 : AaP a b d p = AU a p := AcR fun x hx e => hm ⟨x, hx, e⟩
   rw [h2] at hv
   exact AcV ta (Aa4 hv)
 rw [Aa0 h4, if_neg (by simp)] at e
 subst e
 exact ⟨rfl, h4, ho⟩
theorem AcX {g : Bs → Option Bs} {l : List Aw} (h : AaU g l) (ho : Gn l) (p : Bs) : AU l p = g p := by
 cases h1 : AU l p with
 | some v => exact ((h.2 p v).1 (ho.QO.1 h1)).symm
 | none =>
  cases h2 : g p with
  | none => rfl
  | some v =>
   have := ho.QO.2 ((h.2 p v).2 h2)
   rw [h1] at this
   cases this
theorem AcT (h : Has P AcM) (hF : Hs P) (hT : L8 P) (hA : Aa7 P) (hG : AaT P) (hAw : Fu P) (x : List Int × List Bool) :
  Fn P UM AcL x fun (d : Bool) _ => d = true := by
 obtain ⟨raw, picks⟩ := x
 refine AcP h ?_
 unfold AcO
 dsimp only
 refine hF.at (by decide) (by decide) (by decide) (by decide) (hF.at (by decide) (by decide) (by decide) (by decide) ?_)
 have ta := Lt (raw := raw) (fr := 0) (lines := 2) (by decide) (by decide)
 have tb := Lt (raw := raw) (fr := 200) (lines := 2) (by decide) (by decide)
 generalize DS raw 0 2 = a at ta ⊢
 generalize DS raw 200 2 = b at tb ⊢
 have ha := O1 ta
 have hb := O1 tb
 have ca := Aa0 ta
 have cb := Aa0 tb
 have la := AaV ca
 have lb := AaV cb
 refine (hT (a, b) ha hb).to ?_
 rintro (dd : List A0 × Int) _ hd
 have hd : IU a b dd := hd
 obtain ⟨d, e1⟩ := dd
 have he1 : e1 = 0 := hd.1.trans (AcA ca cb)
 subst he1
 have hd : GW a b d := hd.2.2 rfl
 have hdl := Sj hd
 have hdt : ∀ t ∈ d, t.1.length ≤ 140737488351232 := fun t ht => by
  rcases Abt hd ht with ⟨f, hf, e⟩ | ⟨f, hf, e⟩
  ·rw [← e]; exact (ha.2 f hf).1
  ·rw [← e]; exact (hb.2 f hf).1
 dsimp only
 rw [w64 (n := ((d.length : Nat) : Int) - 1) (by omega) (by omega)]
 refine Ar.mid (fun q => (q.1 ++ q.2).Perm d) ?_ ?_
 ·refine BU.of (fun q => (-1 ≤ q.2.2 ∧ q.2.2 < d.length) ∧ (q.1 ++ q.2.1).Perm (d.drop (q.2.2 + 1).toNat)) (fun q => (q.2.2 + 1).toNat) ⟨⟨by dsimp only; omega, by dsimp only; omega⟩, by
   show ([] : List A0).Perm (d.drop (((d.length : Nat) : Int) - 1 + 1).toNat)
   rw [List.drop_of_length_le (by omega)]⟩ ?_
  rintro ⟨s, r, i⟩ ⟨⟨i0, i1⟩, hp⟩
  dsimp only at i0 i1 hp ⊢
  refine ⟨fun hi => ?_, fun hi => ?_⟩
  ·have hi := of_decide_eq_true hi
   have hi2 : i.toNat < d.length := by omega
   have hsl := hp.length_eq
   rw [List.length_append, List.length_drop] at hsl
   have hdr : d.drop i.toNat = d.getD i.toNat ([], 0) :: d.drop (i + 1).toNat := by
    rw [List.drop_eq_getElem_cons hi2, getD_eq hi2, show (i + 1).toNat = i.toNat + 1 by omega]
   refine Ar.mid (fun q => (q.1 ++ q.2).Perm (d.drop i.toNat)) ⟨fun hc => ⟨by omega, of_decide_eq_true hc⟩, fun hc => by have := of_decide_eq_true hc; omega, ?_⟩ fun q hq => ?_
   ·refine Ar.mid (fun q => (q.1 ++ q.2).Perm (d.drop i.toNat)) ⟨fun _ => ⟨⟨by omega, i1⟩, hi2, by simp only [List.length_cons, List.length_nil]; omega, ?_⟩, fun _ => ⟨⟨by omega, i1⟩, hi2, by simp only [List.length_cons, List.length_nil]; omega, ?_⟩⟩ fun _ h => h
    ·dsimp only
     rw [hdr, List.append_assoc]
     exact (List.perm_middle).trans (hp.cons _)
    ·dsimp only
     rw [hdr, ← List.append_assoc]
     exact (List.perm_append_comm).trans (hp.cons _)
   ·rw [w64 (by omega) (by omega)]
    refine ⟨⟨⟨by omega, by omega⟩, ?_⟩, by omega⟩
    rw [show (i - 1 + 1).toNat = i.toNat by omega]
    exact hq
  ·have hi := of_decide_eq_false hi
   rw [show (i + 1).toNat = 0 by omega, List.drop_zero] at hp
   exact hp
 rintro ⟨s, r⟩ hp
 dsimp only at hp ⊢
 have hsl := hp.length_eq
 rw [List.length_append] at hsl
 have hne : (s ++ r).Pairwise fun x y => x.1 ≠ y.1 := hp.symm.pairwise (Acz hd) fun h e => h e.symm
 obtain ⟨ns, nr, nsr⟩ := List.pairwise_append.1 hne
 have hks : ∀ t ∈ s, JS a b t.1 = some t.2 := fun t ht => (hd.2 t.1 t.2).1 (hp.mem_iff.1 (List.mem_append_left _ ht))
 have hkr : ∀ t ∈ r, JS a b t.1 = some t.2 := fun t ht => (hd.2 t.1 t.2).1 (hp.mem_iff.1 (List.mem_append_right _ ht))
 have hst : ∀ t ∈ s, t.1.length ≤ 140737488351232 := fun t ht => hdt t (hp.mem_iff.1 (List.mem_append_left _ ht))
 have hrt : ∀ t ∈ r, t.1.length ≤ 140737488351232 := fun t ht => hdt t (hp.mem_iff.1 (List.mem_append_right _ ht))
 refine (hA (a, b, s) ha hb (by dsimp only; omega) hst).to ?_
 rintro (x : List Aw × Int) _ hx
 have hx : AaK a b s x := hx
 obtain ⟨hx2, tx, htx⟩ := AcU ta tb hks ns hx
 obtain ⟨o, e⟩ := x
 dsimp only at hx2 tx htx
 subst hx2
 have hob : ∀ p, AU o p = AaP a b s p := fun p => AcX htx (LV (Aa0 tx)) p
 have hkr2 : ∀ t ∈ r, JS o b t.1 = some t.2 := fun t ht =>
  (AcW ((hob t.1).trans (AcR fun x hx e => nsr x hx t ht e))).trans (hkr t ht)
 refine (hA (o, b, r) (O1 tx) hb (by dsimp only; omega) hrt).to ?_
 rintro (y : List Aw × Int) _ hy
 have hy : AaK o b r y := hy
 obtain ⟨hy2, ty, hty⟩ := AcU tx tb hkr2 nr hy
 obtain ⟨z, e⟩ := y
 dsimp only at hy2 ty hty
 subst hy2
 have hzb : z = b := by
  refine Aby (g := AU b) ⟨hty.1, fun p v => ?_⟩ (Acv (LV cb))
  rw [hty.2]
  have : AaP o b r p = AU b p := by
   by_cases hm : ∃ t ∈ r, t.1 = p
   ·obtain ⟨t, ht, rfl⟩ := hm
    exact (AcS ht nr).trans (AcI (hkr t ht))
   ·have h1 : AaP o b r p = AU o p := AcR fun x hx e => hm ⟨x, hx, e⟩
    rw [h1, hob]
    by_cases hm2 : ∃ t ∈ s, t.1 = p
    ·obtain ⟨t, ht, rfl⟩ := hm2
     exact (AcS ht ns).trans (AcI (hks t ht))
    ·have h2 : AaP a b s p = AU a p := AcR fun x hx e => hm2 ⟨x, hx, e⟩
     rw [h2]
     refine AcG ?_
     cases hk : JS a b p with
     | none => rfl
     | some k =>
      rcases List.mem_append.1 (hp.mem_iff.2 ((hd.2 p k).2 hk)) with h3 | h3
      ·exact absurd ⟨_, h3, rfl⟩ hm2
      ·exact absurd ⟨_, h3, rfl⟩ hm
  rw [this]
 subst hzb
 dsimp only
 simp only [beq_self_eq_true, cond_true]
 refine Ar.mid (fun d => d = true) ⟨fun _ => hG.at (by omega) (by simp), fun h => absurd h (by simp), trivial⟩ ?_
 rintro d rfl
 simp only [cond_true]
 refine Ar.mid (fun d => d = true) ⟨fun _ => hAw.at rfl, fun h => absurd h (by simp), trivial⟩ ?_
 rintro d rfl
 rfl
end Go.VS
