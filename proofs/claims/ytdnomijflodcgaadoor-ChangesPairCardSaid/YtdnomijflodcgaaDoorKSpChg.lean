/- changes: the lists of a commit. -/
import Derived.Test.YtdnomijflodcgaaDoorKSpDag
import Derived.Test.YtdnomijflodcgaaDoorKSpL21c
set_option linter.unusedVariables false
set_option linter.unusedSimpArgs false
namespace Go.VS
variable {P : Pg}
def Eu (g : List Ay) (c : Int) : List AJ := (g.getD c.toNat ([], (0, []))).2.2
def DA (g : List Ay) (c : Int) : List (List AJ) := if (Bh g c).length = 0 then [[]] else (Bh g c).map fun p => Eu g p
theorem Iy {g : List Ay} (h : DE g 0) : HE g ∧ Hg g ∧ ¬K0 g ∧ ME g ∧ Gc g = 0 := by
 have k1 : HE g := Classical.byContradiction fun k => by have := h.1 k; omega
 have k2 : Hg g := Classical.byContradiction fun k => by have := h.2.1 k1 k; omega
 have k3 : ¬K0 g := fun k => by have := h.2.2.1 k1 k2 k; omega
 have k4 : ME g := Classical.byContradiction fun k => by have := h.2.2.2.1 k1 k2 k3 k; omega
 exact ⟨k1, k2, k3, k4, (h.2.2.2.2 k1 k2 k3 k4).symm⟩
theorem AaG (g : List Ay) (c : Int) : (cond (decide (c ≥ (0 : Int))) (decide (c < ((List.length g : Nat) : Int))) false) = true ↔ inR g c := by
 unfold inR
 rw [Bool.cond_eq_ite]
 by_cases h : c ≥ 0
 ·rw [if_pos (decide_eq_true h)]
  exact ⟨fun k => ⟨h, of_decide_eq_true k⟩, fun k => decide_eq_true k.2⟩
 ·rw [if_neg (by simpa using h)]
  exact ⟨fun k => (by cases k), fun k => absurd k.1 h⟩
def EM (P : Pg) : Prop := ∀ x : List Ay × Int, M3 x.1 → Fn P Z7 BD x fun (d : Int) _ => ∃ e, DE x.1 e ∧ (e ≠ 0 → d = e) ∧ (e = 0 → (inR x.1 x.2 → d = 0) ∧ (¬inR x.1 x.2 → d = 5))
theorem Ve (h : Has P EF) (hI : Has P Lm) (hD : I9 P) : EM P := by
 rintro ⟨g, c⟩ hs
 refine MP h ?_
 unfold IY
 dsimp only at hs ⊢
 refine (hD g hs).to ?_
 rintro (e : Int) _ he
 have he : DE g e := he
 refine ⟨fun hb => ⟨e, he, fun _ => rfl, fun h0 => absurd h0 (by simpa using hb)⟩, fun hb => ?_⟩
 have h0 : e = 0 := by simpa using hb
 refine Wr hI ?_
 unfold Si
 dsimp only
 have hi := AaG g c
 refine ⟨fun hb => ⟨e, he, fun k => absurd h0 k, fun _ => ⟨fun k => ?_, fun _ => rfl⟩⟩, fun hb => ⟨e, he, fun k => absurd h0 k, fun _ => ⟨fun _ => rfl, fun k => ?_⟩⟩⟩
 ·rw [hi.2 k] at hb; cases hb
 ·refine absurd (hi.1 ?_) k
  simpa using hb
theorem YH {α : Type} {l : List α} {k : Nat} {d : α} (h : k < l.length) : l.take (k + 1) = l.take k ++ [l.getD k d] := by
 rw [List.take_add_one, List.getD_eq_getElem?_getD, List.getElem?_eq_getElem h]
 rfl
def Ik (P : Pg) : Prop := ∀ x : List Ay × Int, inR x.1 x.2 → Uh x.1 → (Bh x.1 x.2).length ≤ 1000000 → Fn P Z8 Bp x fun (d : List (List AJ)) _ => d = DA x.1 x.2
theorem Vi (h : Has P D9) : Ik P := by
 rintro ⟨g, c⟩ hc hv hl
 dsimp only at hc hv hl
 refine K3 h ?_
 unfold Hq
 dsimp only
 have hc2 : c.toNat < g.length := by have := hc.1; have := hc.2; omega
 have ez : (g.getD c.toNat Ai).1 = Bh g c := rfl
 have hv2 := hv c hc
 rw [ez]
 refine ⟨⟨hc.1, hc.2⟩, hc2, fun hb => ?_, fun hb => ⟨⟨hc.1, hc.2⟩, hc2, ?_⟩⟩
 ·show [[]] = DA g c
  have hb : ((Bh g c).length : Int) = 0 := by simpa using hb
  unfold DA
  rw [if_pos (by omega)]
 ·have hb : ¬((Bh g c).length : Int) = 0 := by simpa using hb
  have et : DA g c = (Bh g c).map fun p => Eu g p := by unfold DA; rw [if_neg (by omega)]
  rw [et]
  generalize Bh g c = l at hl hv2 hb ⊢
  refine Aj.mid (fun d => d = l.map fun p => Eu g p) ?_ fun _ h => h
  refine A3.of (fun q => (0 ≤ q.2 ∧ q.2 ≤ l.length) ∧ q.1 = (l.take q.2.toNat).map fun p => Eu g p) (fun q => (l.length - q.2).toNat) ⟨⟨Int.le_refl _, by dsimp only; omega⟩, rfl⟩ ?_
  rintro ⟨q, i⟩ ⟨⟨i0, i1⟩, hq⟩
  dsimp only at i0 i1 hq ⊢
  refine ⟨fun hi => ?_, fun hi => ?_⟩
  ·have hi := of_decide_eq_true hi
   have hi2 : i.toNat < l.length := by omega
   have hp := hv2 _ (B3 (d := 0) hi2)
   have hql : q.length = i.toNat := by rw [hq, List.length_map, List.length_take]; omega
   refine Aj.mid (fun d => d = (l.take (i.toNat + 1)).map fun p => Eu g p) ⟨⟨i0, hi⟩, hi2, ⟨hp.1, hp.2⟩, by have := hp.1; have := hp.2; omega, by simp only [List.length_cons, List.length_nil]; omega, ?_⟩ fun d hn => ?_
   ·rw [YH (d := 0) hi2, List.map_append, hq]
    rfl
   ·rw [w64 (by omega) (by omega)]
    refine ⟨⟨⟨by omega, by omega⟩, ?_⟩, by omega⟩
    rw [hn, show (i + 1).toNat = i.toNat + 1 by omega]
  ·have hi := of_decide_eq_false hi
   show q = _
   rw [hq, List.take_of_length_le (by omega)]
theorem Abw {α : Type} {q r : List α} {k : Nat} {d : α} (h : k < q.length) : (q ++ r).getD k d = q.getD k d := by
 rw [List.getD_eq_getElem?_getD, List.getElem?_append_left h, ← List.getD_eq_getElem?_getD]
theorem Abx {α : Type} {q : List α} {v d : α} : (q ++ [v]).getD q.length d = v := by
 rw [List.getD_eq_getElem?_getD, List.getElem?_append_right (Nat.le_refl _), Nat.sub_self]
 rfl
def Y1 (g : List Ay) (c : Int) (d : List (List Bm)) : Prop := d.length = (DA g c).length ∧ ∀ k, k < d.length → ∃ e, Mo ((DA g c).getD k []) (Eu g c) (d.getD k [], e)
theorem Vp {g : List Ay} {c : Int} (hl : (Bh g c).length ≤ 1000000) : (DA g c).length ≤ 1000000 ∧ 0 < (DA g c).length := by
 unfold DA
 split
 ·simp
 ·rw [List.length_map]; omega
def Xl (P : Pg) : Prop := ∀ x : List Ay × Int, inR x.1 x.2 → Uh x.1 → (Bh x.1 x.2).length ≤ 1000000 → (∀ t ∈ DA x.1 x.2, ER t) → ER (Eu x.1 x.2) → Fn P Abj Dg x fun (d : List (List Bm)) _ => Y1 x.1 x.2 d
theorem AbQ (h : Has P Ge) (hP : Ik P) (hT : Oa P) : Xl P := by
 rintro ⟨g, c⟩ hc hv hl ht hf
 dsimp only at hc hv hl ht hf
 refine PO h ?_
 unfold Ln
 refine (hP (g, c) hc hv hl).to ?_
 rintro (d : List (List AJ)) _ hd
 have hd : d = DA g c := hd
 subst hd
 dsimp only
 have hc2 : c.toNat < g.length := by have := hc.1; have := hc.2; omega
 have htl := (Vp hl).1
 unfold Y1
 generalize DA g c = T at ht htl ⊢
 refine Aj.mid (fun d => d.length = T.length ∧ ∀ k, k < d.length → ∃ e, Mo (T.getD k []) (Eu g c) (d.getD k [], e)) ?_ fun _ h => h
 refine A3.of (fun q => (0 ≤ q.2 ∧ q.2 ≤ T.length) ∧ q.1.length = q.2.toNat ∧ ∀ k, k < q.1.length → ∃ e, Mo (T.getD k []) (Eu g c) (q.1.getD k [], e)) (fun q => (T.length - q.2).toNat) ⟨⟨Int.le_refl _, by dsimp only; omega⟩, rfl, fun k hk => absurd hk (by simp)⟩ ?_
 rintro ⟨q, i⟩ ⟨⟨i0, i1⟩, hql, hq⟩
 dsimp only at i0 i1 hql hq ⊢
 refine ⟨fun hi => ?_, fun hi => ?_⟩
 ·have hi := of_decide_eq_true hi
  have hi2 : i.toNat < T.length := by omega
  refine Aj.mid (fun d => d.length = i.toNat + 1 ∧ ∀ k, k < d.length → ∃ e, Mo (T.getD k []) (Eu g c) (d.getD k [], e)) ⟨⟨i0, hi⟩, hi2, ⟨hc.1, hc.2⟩, hc2, (hT (T.getD i.toNat [], Eu g c) (ht _ (B3 hi2)) hf).to ?_⟩ fun d hn => ?_
  ·rintro (d : List Bm × Int) _ hd
   have hd : Mo (T.getD i.toNat []) (Eu g c) d := hd
   refine ⟨by simp only [List.length_cons, List.length_nil]; omega, ?_, fun k hk => ?_⟩
   ·rw [List.length_append, hql]; rfl
   ·rw [List.length_append, List.length_singleton] at hk
    by_cases hki : k < q.length
    ·obtain ⟨e, he⟩ := hq k hki
     refine ⟨e, ?_⟩
     rw [Abw hki]
     exact he
    ·have e1 : k = q.length := by omega
     refine ⟨d.2, ?_⟩
     rw [e1, Abx, hql]
     exact hd
  ·rw [w64 (by omega) (by omega)]
   exact ⟨⟨⟨by omega, by omega⟩, by rw [hn.1]; omega, hn.2⟩, by omega⟩
 ·have hi := of_decide_eq_false hi
  exact ⟨by omega, hq⟩
theorem Q3 : ∀ {g : List Ay}, Gc g = 0 → ∀ c ∈ g, Du c.2.2 = 0
 | [], _, c, hc => (nomatch hc)
 | x :: g, h, c, hc => by
  rw [Gc] at h
  by_cases hx : Du x.2.2 = 0
  ·rw [if_neg (by simpa using hx)] at h
   rcases List.mem_cons.1 hc with rfl | hc
   ·exact hx
   ·exact Q3 h c hc
  ·rw [if_pos hx] at h
   exact absurd h hx
theorem XK {l : List AJ} (h : Du l = 0) : l.length ≤ 200 := by
 unfold Du at h
 split at h
 ·cases h
 ·omega
theorem MM {g : List Ay} (h0 : DE g 0) (hs : M3 g) {c : Int} (hc : inR g c) : Du (Eu g c) = 0 ∧ ER (Eu g c) := by
 have hm := Dz (g := g) (i := c.toNat) (by have := hc.1; have := hc.2; omega)
 have h1 := Q3 (Iy h0).2.2.2.2 _ hm
 refine ⟨h1, ?_, hs _ hm⟩
 have := XK h1
 have : (Eu g c).length ≤ 200 := this
 omega
theorem Q4 {g : List Ay} (h0 : DE g 0) (hs : M3 g) {c : Int} (hc : inR g c) : ∀ t ∈ DA g c, Du t = 0 ∧ ER t := by
 intro t ht
 unfold DA at ht
 split at ht
 ·have : t = [] := by simpa using ht
  subst this
  exact ⟨by decide, Nat.zero_le _, fun f hf => nomatch hf⟩
 ·obtain ⟨p, hp, rfl⟩ := List.mem_map.1 ht
  exact MM h0 hs (GZ (Iy h0).2.1 c hc p hp)
def Mr (P : Pg) : Prop := ∀ x : List Ay × Int, M3 x.1 → DE x.1 0 → inR x.1 x.2 → Fn P Xg BC x fun (d : List (List Bm) × Int) _ => Y1 x.1 x.2 d.1 ∧ d.2 = 0
theorem WZ (h : Has P DV) (hC : EM P) (hO : Xl P) : Mr P := by
 intro x hs h0 hc
 refine H3 h ?_
 unfold F5
 refine (hC x hs).to ?_
 rintro (d : Int) _ ⟨e, he, _, h1⟩
 have hd := (h1 (EO he h0)).1 hc
 subst hd
 refine ⟨fun hb => absurd hb (by simp), fun hb => ?_⟩
 have k := Iy h0
 refine (hO x hc (GZ k.2.1) (LP k.1 _ hc) (fun t ht => (Q4 h0 hs hc t ht).2) (MM h0 hs hc).2).to ?_
 rintro (d : List (List Bm)) _ hd
 exact ⟨hd, rfl⟩
def N7 (P : Pg) : Prop := ∀ x : List Ay × (Int × (Int × Bs)), M3 x.1 → DE x.1 0 → inR x.1 x.2.1 → 0 ≤ x.2.2.1 → x.2.2.1 < (DA x.1 x.2.1).length → Fn P zS7 BM x fun (d : Bs × (Bs × Int)) _ => d = ((findF ((DA x.1 x.2.1).getD x.2.2.1.toNat []) x.2.2.2).1, ((findF (Eu x.1 x.2.1) x.2.2.2).1, 0))
theorem YB (h : Has P Ec) (hC : EM P) (hP : Ik P) (hF : Ja P) : N7 P := by
 rintro ⟨g, c, p, w⟩ hs h0 hc hp0 hp1
 dsimp only at hs h0 hc hp0 hp1
 refine I1 h ?_
 unfold GH
 dsimp only
 refine (hC (g, c) hs).to ?_
 rintro (d : Int) _ ⟨e, he, _, h1⟩
 have hd := (h1 (EO he h0)).1 hc
 subst hd
 refine ⟨fun hb => absurd hb (by simp), fun hb => ?_⟩
 have k := Iy h0
 refine (hP (g, c) hc (GZ k.2.1) (LP k.1 _ hc)).to ?_
 rintro (d : List (List AJ)) _ hd
 have hd : d = DA g c := hd
 subst hd
 have hp2 : p.toNat < (DA g c).length := by omega
 have hb2 := (RH p (DA g c).length).2 ⟨hp0, hp1⟩
 refine ⟨fun hb => (by rw [hb2] at hb; cases hb), fun hb => ⟨⟨hp0, hp1⟩, hp2, ?_⟩⟩
 refine hF.at (Q4 h0 hs hc _ (B3 hp2)).2.1 ⟨⟨hc.1, hc.2⟩, by have := hc.1; have := hc.2; omega, ?_⟩
 exact hF.at (MM h0 hs hc).2.1 rfl
end Go.VS
