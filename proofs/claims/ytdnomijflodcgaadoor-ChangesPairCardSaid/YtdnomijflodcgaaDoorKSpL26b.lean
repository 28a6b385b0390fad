/- ChangesPair. -/
import Derived.Test.YtdnomijflodcgaaDoorKSpL26a
import Derived.Test.YtdnomijflodcgaaDoorKSpGr3
import Derived.Test.YtdnomijflodcgaaDoorKSpL21f
set_option linter.unusedVariables false
set_option linter.unusedSimpArgs false
namespace Go.VS
variable {P : Pg}
def Adm (P : Pg) : Prop := ∀ x : List Ay × (Int × (Int × Bs)), M3 x.1 → DE x.1 0 → inR x.1 x.2.1 → ((DA x.1 x.2.1).length : Int) ≤ x.2.2.1 → Fn P zS7 BM x fun (d : Bs × (Bs × Int)) _ => d = ([], ([], 3))
theorem AeE (h : Has P Ec) (hC : EM P) (hP : Ik P) : Adm P := by
 rintro ⟨g, c, p, w⟩ hs h0 hc hp1
 dsimp only at hs h0 hc hp1
 refine I1 h ?_
 unfold GH
 dsimp only
 refine (hC (g, c) hs).to ?_
 rintro (d : Int) _ ⟨e, he, _, h1⟩
 have hd := (h1 (EO he h0)).1 hc
 subst hd
 refine ⟨fun hb => absurd hb (by simp), fun hb => ?_⟩
 have k := Iy h0
 refine (hP (g, c) hc (GZ k.2.1) (LP k.1 _ hc)).to ?_
 rintro (d : List (List AJ)) _ hd
 have hd : d = DA g c := hd
 subst hd
 refine ⟨fun _ => rfl, fun hb => ?_⟩
 have := (RH p (DA g c).length).1 hb
 omega
def Adi (ds : List Bm) (p : Bs) (k : Int) : Prop := (k = 0 ∧ ∀ t ∈ ds, t.1 ≠ p) ∨ ∃ t ∈ ds, t.1 = p ∧ k = t.2
theorem Aee {ds : List Bm} {p : Bs} {k : Int} {t : Bm} (h : Adi ds p k) : Adi (ds ++ [t]) p (if t.1 = p then t.2 else k) := by
 by_cases ht : t.1 = p
 ·rw [if_pos ht]
  exact .inr ⟨t, by simp, ht, rfl⟩
 ·rw [if_neg ht]
  rcases h with ⟨h1, h2⟩ | ⟨u, hu, h1, h2⟩
  ·refine .inl ⟨h1, fun x hx => ?_⟩
   rcases List.mem_append.1 hx with hx | hx
   ·exact h2 x hx
   ·rw [List.mem_singleton.1 hx]; exact ht
  ·exact .inr ⟨u, by simp [hu], h1, h2⟩
theorem AeH {a b : List AJ} {ds : List Bm} {p : Bs} {k : Int} (hd : Mp a b ds) (h : Adi ds p k) : (k = 0 ∧ Yg a b p = none) ∨ Yg a b p = some k := by
 rcases h with ⟨h1, h2⟩ | ⟨t, ht, h1, h2⟩
 ·refine .inl ⟨h1, ?_⟩
  cases hk : Yg a b p with
  | none => rfl
  | some v => exact absurd rfl (h2 (p, v) ((hd.2 p v).2 hk))
 ·subst h1 h2
  exact .inr ((hd.2 t.1 t.2).1 ht)
theorem Aef {a b : List AJ} {p : Bs} {k : Int} (h : (k = 0 ∧ Yg a b p = none) ∨ Yg a b p = some k) : (cond (cond (cond (cond (k == (0 : Int)) (!((BL a p).getD [] == (BL b p).getD [])) false) true (cond (k == (3 : Int)) ((BL a p).getD [] == (BL b p).getD []) false)) true (cond (k == (1 : Int)) (!((BL a p).getD [] == ([] : List UInt8))) false)) true (cond (k == (2 : Int)) (!((BL b p).getD [] == ([] : List UInt8))) false)) = false := by
 rcases h with ⟨rfl, h⟩ | h
 ·rw [Aeg h]
  simp
 ·unfold Yg at h
  cases ha : BL a p with
  | none =>
   cases hb : BL b p with
   | none => rw [ha, hb] at h; cases h
   | some y =>
    rw [ha, hb] at h
    have := Option.some.inj h
    subst this
    simp
  | some x =>
   cases hb : BL b p with
   | none =>
    rw [ha, hb] at h
    have := Option.some.inj h
    subst this
    simp
   | some y =>
    rw [ha, hb] at h
    dsimp only at h
    split at h
    ·cases h
    ·rename_i hne
     have := Option.some.inj h
     subst this
     simp [hne]
theorem Adr (h : Has P Acq) (hG : Adk P) (hM : AcL P) (hL : Mr P) (hV : N7 P) (hO : Adm P) (hAw : GG P) (x : List Int × (Int × Int)) :
  Fn P AeP Acg x fun (d : Bool) _ => d = true := by
 obtain ⟨raw, c, par⟩ := x
 refine AcO h ?_
 unfold Acy
 dsimp only
 refine (hG (raw, (6, 2)) ⟨show (0 : Int) ≤ 6 by decide, show (6 : Int) ≤ 9 by decide⟩ ⟨show (0 : Int) ≤ 2 by decide, show (2 : Int) ≤ 2 by decide⟩).to ?_
 rintro (g : List Ay) _ hg
 have hg : Aes 6 g := hg
 obtain ⟨hgl, hg0, hgs, hgT⟩ := hg
 refine ⟨fun _ => hAw.at rfl, fun hb => ?_⟩
 have hgn : ¬((g.length : Nat) : Int) = 0 := by simpa using hb
 refine hM.at (by omega) (by omega) ?_
 have hcr := Acp (a := c) (n := (g.length : Int)) (by omega) (by omega)
 generalize Acw c (g.length : Int) = c at hcr ⊢
 have hin : inR g c := hcr
 refine (hL (g, c) hgs hg0 hin).to ?_
 rintro (d : List (List Bm) × Int) _ hd
 obtain ⟨l, e⟩ := d
 have hd : Y1 g c l ∧ e = 0 := hd
 obtain ⟨⟨hll, hlk⟩, rfl⟩ := hd
 have k0 := Iy hg0
 have htl := Vp (LP k0.1 c hin)
 have hln : ¬((l.length : Nat) : Int) = 0 := by omega
 have hz : (((l.length : Nat) : Int) == 0) = false := by simpa using hln
 dsimp only
 refine ⟨fun hb => (by rw [hz] at hb; exact absurd hb (by decide)), fun _ => ?_⟩
 refine hM.at (by omega) (by omega) ?_
 have hpr := Acp (a := par) (n := (l.length : Int)) (by omega) (by omega)
 generalize Acw par (l.length : Int) = p at hpr ⊢
 have hp2 : p.toNat < l.length := by omega
 have hpT : p.toNat < (DA g c).length := by omega
 obtain ⟨e2, hdf⟩ := hlk p.toNat hp2
 have hT := Q4 hg0 hgs hin _ (B3 (d := []) hpT)
 have hF := MM hg0 hgs hin
 have hdi : Mp ((DA g c).getD p.toNat []) (Eu g c) (l.getD p.toNat []) := by
  refine hdf.2.2 ?_
  rw [hdf.1]
  unfold Jh
  rw [if_neg (by simpa using hT.1)]
  exact hF.1
 have hdl := Ad2 hdi
 have hTl := hT.2.1
 have hFl := hF.2.1
 refine Aj.mid (fun _ => True) ?_ fun _ _ => ?_
 ·refine A3.of (fun q => (0 ≤ q.2 ∧ q.2 ≤ 4)) (fun q => (4 - q.2).toNat) ⟨Int.le_refl _, by decide⟩ ?_
  rintro ⟨b, i⟩ ⟨i0, i1⟩
  dsimp only at i0 i1 ⊢
  refine ⟨fun hi => ?_, fun _ => trivial⟩
  have hi := of_decide_eq_true hi
  refine Aj.mid (fun _ => True) ⟨⟨i0, hi⟩, by show i.toNat < 4; omega, ?_⟩ fun _ _ => by rw [w64 (by omega) (by omega)]; exact ⟨⟨by omega, by omega⟩, by omega⟩
  have hlt4 : (Int.toNat i) < List.length ([([97] : List UInt8), ([98, 47, 120] : List UInt8), ([98, 47, 121] : List UInt8), ([99, 32, 100] : List UInt8)] : List (List UInt8)) := by show i.toNat < 4; omega
  have hlt5 : (0 : Int) ≤ i ∧ i < ((List.length ([([97] : List UInt8), ([98, 47, 120] : List UInt8), ([98, 47, 121] : List UInt8), ([99, 32, 100] : List UInt8)] : List (List UInt8)) : Nat) : Int) := ⟨i0, by show i < 4; exact hi⟩
  refine (hV (g, (c, (p, (Ack.getD i.toNat [])))) hgs hg0 hin hpr.1 (by dsimp only; omega)).to ?_
  rintro (d : Bs × (Bs × Int)) _ hd
  have hd : d = ((findF ((DA g c).getD p.toNat []) (Ack.getD i.toNat [])).1, ((findF (Eu g c) (Ack.getD i.toNat [])).1, 0)) := hd
  rw [AdN (NT hT.1), AdN (NT hF.1)] at hd
  subst hd
  dsimp only
  refine ⟨fun hb => absurd hb (by simp), fun _ => ?_⟩
  generalize l.getD p.toNat [] = ds at hdi hdl ⊢
  generalize (DA g c).getD p.toNat [] = T at hT hdi hdl hTl ⊢
  refine Aj.mid (fun k => Adi ds (Ack.getD i.toNat []) k) ?_ fun k hk => ?_
  ·refine A3.of (fun q => (0 ≤ q.2 ∧ q.2 ≤ ds.length) ∧ Adi (ds.take q.2.toNat) (Ack.getD i.toNat []) q.1) (fun q => (ds.length - q.2).toNat) ⟨⟨Int.le_refl _, Int.natCast_nonneg _⟩, .inl ⟨rfl, fun t ht => by simp at ht⟩⟩ ?_
   rintro ⟨kk, j⟩ ⟨⟨j0, j1⟩, hk⟩
   dsimp only at j0 j1 hk ⊢
   refine ⟨hpr, hp2, hp2, fun hj => ?_, fun hj => ?_⟩
   ·have hj := of_decide_eq_true hj
    have hj2 : j.toNat < ds.length := by omega
    have hnx := Aee (t := ds.getD j.toNat ([], 0)) hk
    rw [← YH (d := ([], 0)) hj2] at hnx
    refine Aj.mid (fun k => Adi (ds.take (j.toNat + 1)) (Ack.getD i.toNat []) k) ⟨hpr, hp2, hp2, ⟨j0, hj⟩, hp2, hj2, hlt5, hlt4, ?_⟩ fun k hn => ?_
    ·refine Aj.mid (fun k => Adi (ds.take (j.toNat + 1)) (Ack.getD i.toNat []) k) ⟨fun hb => ⟨hpr, hp2, hp2, ⟨j0, hj⟩, hp2, hj2, ?_⟩, fun hb => ?_⟩ fun _ h => h
     ·rw [if_pos (eq_of_beq hb)] at hnx
      exact hnx
     ·rw [if_neg (ne_of_beq_false hb)] at hnx
      exact hnx
    ·rw [w64 (by omega) (by omega)]
     exact ⟨⟨⟨by omega, by omega⟩, by rw [show (j + 1).toNat = j.toNat + 1 by omega]; exact hn⟩, by omega⟩
   ·have hj := of_decide_eq_false hj
    rw [List.take_of_length_le (by omega)] at hk
    exact hk
  ·have hgood := Aef (AeH hdi hk)
   exact ⟨fun hb => absurd (hgood.symm.trans hb) (by simp), fun _ => trivial⟩
 ·refine (hO (g, (c, ((l.length : Int), [97]))) hgs hg0 hin (by dsimp only; omega)).to ?_
  rintro (d : Bs × (Bs × Int)) _ hd
  have hd : d = ([], ([], 3)) := hd
  subst hd
  refine Aj.mid (fun d => d = true) ⟨fun _ => hAw.at rfl, fun hb => absurd hb (by decide), trivial⟩ ?_
  rintro d rfl
  rfl
end Go.VS
