/- Merge bases, and independent commits: the laws. -/
import Derived.Test.YtdnomijflodcgaaDoorKSpL25
set_option linter.unusedVariables false
set_option linter.unusedSimpArgs false
namespace Go.VS
variable {P : Pg}
theorem Afs {l : List Int} (h : l.Pairwise fun x y => x < y) {i j : Nat} (hij : i < j) (hj : j < l.length) : l.getD i 0 < l.getD j 0 := by
 rw [getD_eq (by omega), getD_eq hj]
 exact (List.pairwise_iff_getElem.1 h) i j (by omega) hj hij
theorem AeQ.at {g : List Aq} (h : AeQ P) (h0 : DF g 0) {l : List Int} (hl : l.length ≤ 1000000) (hr : ∀ f ∈ l, inR g f) {K : List Bool → Unit → Prop} (hk : ∀ s : List Bool, Aft g l s → K s ()) : Fn P zS2 Aei (g, l) K := by
 obtain ⟨hn, hv, hpl⟩ := Ae3 h0
 refine (h (g, l) hn hl hv hpl hr).to ?_
 rintro (s : List Bool) _ hs
 exact hk s hs
theorem AeU.at (h : AeU P) {l m : List Int} (hl : l.length ≤ 140737488351232) {K : Bool → Unit → Prop} (hk : ∀ d : Bool, (d = true ↔ l = m) → K d ()) : Fn P zS3 Aem (l, m) K := by
 refine (h (l, m) hl).to ?_
 rintro (d : Bool) _ hd
 exact hk d hd
theorem Afe (h : Has P Aeq) (hG : OP P) (hM : Iu P) (hB : AeT P) (hRe : AeQ P) (hT : AeU P) (hAw : AeH P) (x : List Int × (Int × Int)) :
  Fn P AaM Aej x fun (d : Bool) _ => d = true := by
 obtain ⟨raw, a, b⟩ := x
 refine AeM h ?_
 unfold Aex
 dsimp only
 refine (hG (raw, (9, 1)) ⟨show (0 : Int) ≤ 9 by decide, show (9 : Int) ≤ 9 by decide⟩ ⟨show (0 : Int) ≤ 1 by decide, show (1 : Int) ≤ 2 by decide⟩).to ?_
 rintro (g : List Aq) _ hg
 have hg : YX 9 g := hg
 obtain ⟨hgl, hg0, hgs, hgT⟩ := hg
 refine ⟨fun _ => hAw.at rfl, fun hb => ?_⟩
 have hgn : ¬((g.length : Nat) : Int) = 0 := by simpa using hb
 refine hM.at (by omega) (by omega) (hM.at (by omega) (by omega) ?_)
 have ra := DV (a := a) (n := (g.length : Int)) (by omega) (by omega)
 have rb := DV (a := b) (n := (g.length : Int)) (by omega) (by omega)
 generalize FB a (g.length : Int) = a at ra ⊢
 generalize FB b (g.length : Int) = b at rb ⊢
 have ra : inR g a := ra
 have rb : inR g b := rb
 obtain ⟨hn, hv, hpl⟩ := Ae3 hg0
 have hcy := (Ep hg0).2.2.1
 refine (hB (g, (a, b)) hgs).to ?_
 rintro (d9 : List Int × Int) _ h9
 have h9 : Aev g a b d9 := h9
 refine (hB (g, (b, a)) hgs).to ?_
 rintro (d11 : List Int × Int) _ h11
 have e11 : d9 = d11 := AfD h9 h11
 subst e11
 clear h11
 obtain ⟨l, e⟩ := d9
 unfold Aev at h9
 obtain ⟨⟨L, hL, hI⟩, he⟩ := h9.good hg0 ⟨ra, rb⟩
 have he : e = 0 := he
 subst he
 have hI : AeF g L l := hI
 dsimp only
 have hsrt : l.Pairwise fun x y => x < y := hL.srt.sublist hI.sub
 have hll : l.length ≤ 9 := by have := hL.len; have := hI.sub.length_le; omega
 have hlm : ∀ x, x ∈ l → inR g x ∧ Rch g a x ∧ Rch g b x := fun x hx => hL.mem.1 (hI.mem.1 hx).1
 have hnc : ∀ x ∈ l, ∀ y ∈ l, x ≠ y → ¬Rch g x y := fun x hx y hy hne hr => (hI.mem.1 hy).2 ⟨x, (hI.mem.1 hx).1, hne, hr⟩
 have h00 : ((0 : Int) != 0) = false := by decide
 simp only [h00, cond_false]
 refine Ai.mid (fun q => q = true) ⟨fun _ => hT.at (by omega) fun d hd => hd.2 rfl, fun hb => absurd hb (by decide), trivial⟩ ?_
 rintro q rfl
 refine ⟨fun hb => absurd hb (by decide), fun _ => ?_⟩
 refine hRe.at hg0 (by simp) (fun f hf => by rw [List.mem_singleton.1 hf]; exact ra) fun x hx => ?_
 refine hRe.at hg0 (by simp) (fun f hf => by rw [List.mem_singleton.1 hf]; exact rb) fun y hy => ?_
 have hxl := hx.1
 have hyl := hy.1
 refine Ai.mid (fun _ => True) ?_ fun _ _ => ?_
 ·refine Bl.of (fun q => (0 ≤ q.2 ∧ q.2 ≤ l.length)) (fun q => (l.length - q.2).toNat) ⟨Int.le_refl _, Int.natCast_nonneg _⟩ ?_
  rintro ⟨q, i⟩ ⟨i0, i1⟩
  dsimp only at i0 i1 ⊢
  refine ⟨fun hi => ?_, fun _ => trivial⟩
  have hi := of_decide_eq_true hi
  have hi2 : i.toNat < l.length := by omega
  obtain ⟨v1, v2, v3⟩ := hlm _ (BK (d := 0) hi2)
  have hlt : 0 < i → l.getD (IntKind.i64.wrap (i - 1)).toNat 0 < l.getD i.toNat 0 := fun h0 => Afs hsrt (by rw [w64 (by omega) (by omega)]; omega) hi2
  have hiw : 0 < i → 0 ≤ IntKind.i64.wrap (i - 1) ∧ IntKind.i64.wrap (i - 1) < l.length := fun h0 => by rw [w64 (by omega) (by omega)]; omega
  generalize l.getD (IntKind.i64.wrap (i - 1)).toNat 0 = u at hlt
  have hvx := (AeN hx v1).2 v2
  have hvy := (AeN hy v1).2 v3
  generalize hv0 : l.getD i.toNat 0 = v at v1 v2 v3 hlt hvx hvy
  have e1 : decide (v < 0) = false := decide_eq_false (by have := v1.1; omega)
  have e2 : decide (v ≥ ((g.length : Nat) : Int)) = false := decide_eq_false (by have := v1.2; omega)
  have hv2 : v.toNat < g.length := by have := v1.1; have := v1.2; omega
  have e5 : cond (decide (i > 0)) (decide (v ≤ u)) false = false := by
   by_cases h0 : i > 0
   ·rw [decide_eq_true h0, cond_true]
    exact decide_eq_false (by have := hlt h0; omega)
   ·rw [decide_eq_false h0]; rfl
  refine Ai.mid (fun _ => True) ?_ fun _ _ => by rw [w64 (by omega) (by omega)]; exact ⟨⟨by omega, by omega⟩, by omega⟩
  simp only [e1, e2, cond_false, hvx, hvy, Bool.not_true, e5, hxl, hyl]
  exact ⟨⟨i0, hi⟩, hi2, fun _ => ⟨i0, hi⟩, fun _ => hi2, fun _ => ⟨i0, hi⟩, fun _ => hi2, fun _ => ⟨v1.1, v1.2⟩, fun _ => hv2, fun _ => ⟨i0, hi⟩, fun _ => hi2, fun _ => ⟨v1.1, v1.2⟩, fun _ => hv2, fun _ _ => ⟨i0, hi⟩, fun _ _ => hi2, fun h0 _ => hiw (of_decide_eq_true h0), fun h0 _ => by have := hiw (of_decide_eq_true h0); omega, fun hb => absurd hb (by decide), fun _ => trivial⟩
 refine hRe.at hg0 (by omega) (fun f hf => (hlm f hf).1) fun un hun => ?_
 have hul := hun.1
 refine Ai.mid (fun _ => True) ?_ fun _ _ => ?_
 ·refine Bl.of (fun q => (0 ≤ q.2 ∧ q.2 ≤ g.length)) (fun q => (g.length - q.2).toNat) ⟨Int.le_refl _, Int.natCast_nonneg _⟩ ?_
  rintro ⟨q, i⟩ ⟨i0, i1⟩
  dsimp only at i0 i1 ⊢
  refine ⟨fun hi => ?_, fun _ => trivial⟩
  have hi := of_decide_eq_true hi
  have hir : inR g i := ⟨i0, hi⟩
  have hi2 : i.toNat < g.length := by omega
  have e3 : cond (cond (x.getD i.toNat false) (y.getD i.toNat false) false) (!un.getD i.toNat false) false = false := by
   cases h1 : x.getD i.toNat false with
   | false => rfl
   | true =>
    cases h2 : y.getD i.toNat false with
    | false => rfl
    | true =>
     have hm : i ∈ L := hL.mem.2 ⟨hir, (AeN hx hir).1 h1, (AeN hy hir).1 h2⟩
     obtain ⟨f, hf, hr⟩ := Agm hv hcy (fun x hx => (hL.mem.1 hx).1) hI i hm
     have : un.getD i.toNat false = true := (hun.2 i hir).2 ⟨f, hf, hr⟩
     rw [this]
     rfl
  refine Ai.mid (fun _ => True) ⟨⟨i0, by rw [hxl]; exact hi⟩, by omega, fun _ => ⟨i0, by rw [hyl]; exact hi⟩, fun _ => by omega, fun _ => ⟨i0, by rw [hul]; exact hi⟩, fun _ => by omega, fun hb => absurd (hb.symm.trans e3) (by decide), fun _ => trivial⟩ fun _ _ => by rw [w64 (by omega) (by omega)]; exact ⟨⟨by omega, by omega⟩, by omega⟩
 refine Ai.mid (fun _ => True) ?_ fun _ _ => ?_
 ·refine Bl.of (fun q => (0 ≤ q.2 ∧ q.2 ≤ l.length)) (fun q => (l.length - q.2).toNat) ⟨Int.le_refl _, Int.natCast_nonneg _⟩ ?_
  rintro ⟨q, i⟩ ⟨i0, i1⟩
  dsimp only at i0 i1 ⊢
  refine ⟨fun hi => ?_, fun _ => trivial⟩
  have hi := of_decide_eq_true hi
  have hi2 : i.toNat < l.length := by omega
  have him := BK (d := 0) hi2
  refine Ai.mid (fun _ => True) ?_ fun _ _ => by rw [w64 (by omega) (by omega)]; exact ⟨⟨by omega, by omega⟩, by omega⟩
  refine Ai.mid (fun _ => True) ?_ fun _ _ => trivial
  refine Bl.of (fun q => (0 ≤ q.2 ∧ q.2 ≤ l.length)) (fun q => (l.length - q.2).toNat) ⟨Int.le_refl _, Int.natCast_nonneg _⟩ ?_
  rintro ⟨q, k⟩ ⟨k0, k1⟩
  dsimp only at k0 k1 ⊢
  refine ⟨fun hk => ?_, fun _ => trivial⟩
  have hk := of_decide_eq_true hk
  have hk2 : k.toNat < l.length := by omega
  have hkm := BK (d := 0) hk2
  have hkr := (hlm _ hkm).1
  have hkr2 : (l.getD k.toNat 0).toNat < g.length := by have := hkr.1; have := hkr.2; omega
  have hno : i ≠ k → ¬Rch g (l.getD i.toNat 0) (l.getD k.toNat 0) := fun hne => hnc _ him _ hkm fun e => by
   rcases Nat.lt_or_gt_of_ne (show i.toNat ≠ k.toNat by omega) with hlt | hlt
   ·have := Afs hsrt hlt hk2; omega
   ·have := Afs hsrt hlt hi2; omega
  refine Ai.mid (fun _ => True) ?_ fun _ _ => by rw [w64 (by omega) (by omega)]; exact ⟨⟨by omega, by omega⟩, by omega⟩
  refine Ai.mid (fun d => d = false) ⟨fun hne => ?_, fun _ => (by (repeat' apply And.intro) <;> first | exact True.intro | rfl)⟩ fun d hd => ⟨fun hb => (by rw [hd] at hb; cases hb), fun _ => trivial⟩
  have hne : i ≠ k := by simpa using hne
  have key : ∀ s : List Bool, Aft g [l.getD i.toNat 0] s → (0 ≤ l.getD k.toNat 0 ∧ l.getD k.toNat 0 < ((s.length : Nat) : Int)) ∧ (l.getD k.toNat 0).toNat < s.length ∧ cond true (s.getD (l.getD k.toNat 0).toNat false) false = false := fun s hs => by
   refine ⟨⟨hkr.1, by rw [hs.1]; exact hkr.2⟩, by rw [hs.1]; exact hkr2, ?_⟩
   rw [cond_true]
   cases hq : s.getD (l.getD k.toNat 0).toNat false with
   | false => rfl
   | true => exact absurd ((AeN hs hkr).1 hq) (hno hne)
  have hone : ∀ f ∈ [l.getD i.toNat 0], inR g f := fun f hf => by rw [List.mem_singleton.1 hf]; exact (hlm _ him).1
  refine ⟨⟨i0, hi⟩, hi2, ⟨k0, hk⟩, ?_⟩
  repeat' apply And.intro
  all_goals first | exact True.intro | exact hk2 | exact hRe.at hg0 (by simp) hone fun s hs => ⟨hk2, key s hs⟩ | exact hRe.at hg0 (by simp) hone fun s hs => key s hs
 have ha2 : a.toNat < g.length := by have := ra.1; have := ra.2; omega
 refine ⟨⟨ra.1, by rw [hyl]; exact ra.2⟩, by omega, fun hb => ?_, fun hb => ?_⟩
 ·refine Ai.mid (fun d => d = true) ⟨fun _ => hAw.at rfl, fun hb => absurd hb (by decide), trivial⟩ ?_
  rintro d rfl
  rfl
 ·have hya : y.getD a.toNat false = true := Bool.not_inj (show (!_) = (!true) from hb)
  have hba := (AeN hy ra).1 hya
  have hla : l = [a] := by
   refine Afr hsrt (List.pairwise_singleton _ _) fun t => ?_
   rw [List.mem_singleton]
   have haL : a ∈ L := hL.mem.2 ⟨ra, .refl a, hba⟩
   constructor
   ·intro ht
    have h1 := hI.mem.1 ht
    have h2 := hL.mem.1 h1.1
    by_cases e : t = a
    ·exact e
    ·exact absurd ⟨a, haL, fun k => e k.symm, h2.2.1⟩ h1.2
   ·rintro rfl
    refine hI.mem.2 ⟨haL, ?_⟩
    rintro ⟨f, hf, hne, hr⟩
    exact hne (AfV hv hcy ra (hL.mem.1 hf).2.1 hr).symm
  refine hT.at (by omega) fun d hd => ?_
  have hd : d = true := hd.2 hla
  subst hd
  refine Ai.mid (fun d => d = true) ⟨fun _ => hAw.at rfl, fun hb => absurd hb (by decide), trivial⟩ ?_
  rintro d rfl
  rfl
end Go.VS
