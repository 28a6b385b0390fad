import Derived.Test.YtdnomijflodcgaaGreatDoorKSm0
import Derived.Test.YtdnomijflodcgaaGreatDoorKSm1
import Derived.Test.YtdnomijflodcgaaGreatDoorKSm2
import Derived.Lib.ItoaNum
/- The document's performing of differences. -/
set_option linter.unusedVariables false
set_option linter.unusedSimpArgs false
namespace Go.VS
variable {P : Pg}
theorem Amq {a b : List Bh} {d : List Af3} (hd : d.Pairwise fun x y => x.1 ≠ y.1) (hp : d.all (Ald a b) = true) {p : Bs} (h : (Alp a b d p).isSome = true) : (D0 a p).isSome = true ∨ (D0 b p).isSome = true := by
 by_cases hm : ∃ x ∈ d, x.1 = p
 ·obtain ⟨x, hx, rfl⟩ := hm
  have h1 := List.all_eq_true.1 hp x hx
  unfold Alp at h
  rw [AlD d b _ hx hd] at h
  split at h
  ·cases h
  ·rename_i h2
   unfold Ald at h1
   split at h1
   ·rw [Bool.and_eq_true] at h1; exact .inr h1.1
   ·rw [Bool.and_eq_true] at h1
    exact .inr h1.2
 ·unfold Alp at h
  rw [Alr d b _ fun x hx e => hm ⟨x, hx, e⟩] at h
  exact .inl h
theorem Als : ∀ {l : List Bh} {p v : Bs}, D0 l p = some v → (p, v) ∈ l
 | [], _, _, h => nomatch h
 | f :: r, p, v, h => by
  rw [D0] at h
  cases hb : D0 r p with
  | some u =>
   rw [hb] at h
   cases h
   exact List.mem_cons_of_mem _ (Als hb)
  | none =>
   rw [hb] at h
   dsimp only at h
   split at h
   ·rename_i e
    cases h
    rw [e]
    exact List.mem_cons_self ..
   ·cases h
theorem Al7 {b : List Bh} (hb : Kw b) : ∀ (d : List Af3) (g : Bs → Option Bs), (∀ t ∈ d, t.1.length ≤ 140737488351232) → (∀ p v, g p = some v → p.length ≤ 140737488351232 ∧ v.length ≤ 140737488351232) → ∀ p v, d.foldl (stepG b) g p = some v → p.length ≤ 140737488351232 ∧ v.length ≤ 140737488351232
 | [], g, _, hg, p, v, h => hg p v h
 | x :: d, g, hd, hg, p, v, h => by
  rw [List.foldl_cons] at h
  refine Al7 hb d (stepG b g x) (fun t ht => hd t (List.mem_cons_of_mem _ ht)) (fun q u hq => ?_) p v h
  unfold stepG at hq
  split at hq
  ·rename_i e
   split at hq
   ·cases hq
   ·cases hq
    refine ⟨by rw [e]; exact hd x (List.mem_cons_self ..), ?_⟩
    cases hbx : D0 b x.1 with
    | none => exact Nat.zero_le _
    | some u => exact (hb.2 _ (Als hbx)).2
  ·exact hg q u hq
theorem AlL {a b : List Bh} {d : List Af3} (ha : Kw a) (hb : Kw b) (hd : ∀ t ∈ d, t.1.length ≤ 140737488351232) {p v : Bs} (h : Alp a b d p = some v) : p.length ≤ 140737488351232 ∧ v.length ≤ 140737488351232 :=
 Al7 hb d (D0 a) hd (fun p v hg => ha.2 _ (Als hg)) p v h
theorem AjP {l : List Bh} (h : Fm l = 0) : l.length ≤ 200 := by
 unfold Fm at h
 split at h
 ·cases h
 ·omega
theorem AlX {a b : List Bh} {d : List Af3} (hca : Fm a = 0) (hcb : Fm b = 0) (ha : Kw a) (hb : Kw b) (hd : ∀ t ∈ d, t.1.length ≤ 140737488351232) (hdp : d.Pairwise fun x y => x.1 ≠ y.1) (hp : d.all (Ald a b) = true) {o : List Bh} (h : Ali (Alp a b d) o) : Kw o := by
 have hn : (o.map (·.1)).Nodup := by
  rw [List.nodup_iff_pairwise_ne, List.pairwise_map]
  refine h.1.imp fun {x y} hxy e => ?_
  rw [e, N9] at hxy
  cases hxy
 have hs : ∀ p ∈ o.map (·.1), p ∈ (a ++ b).map (·.1) := fun p hm => by
  obtain ⟨t, ht, rfl⟩ := List.mem_map.1 hm
  have h1 := (h.2 t.1 t.2).1 ht
  rw [List.map_append, List.mem_append]
  rcases Amq hdp hp (p := t.1) (by rw [h1]; rfl) with h2 | h2
  ·obtain ⟨f, hf, e⟩ := (Li a t.1).1 h2
   exact .inl (List.mem_map.2 ⟨f, hf, e⟩)
  ·obtain ⟨f, hf, e⟩ := (Li b t.1).1 h2
   exact .inr (List.mem_map.2 ⟨f, hf, e⟩)
 have hl := He hn hs
 rw [List.length_map, List.length_map, List.length_append] at hl
 have h1 := AjP hca
 have h2 := AjP hcb
 exact ⟨by omega, fun f hf => AlL ha hb hd ((h.2 f.1 f.2).1 hf)⟩
end Go.VS

/- TreeApplies. -/
set_option linter.unusedVariables false
set_option linter.unusedSimpArgs false
namespace Go.VS
variable {P : Pg}
theorem Aje {a b : List Bh} {d : List Af3} (h : AgQ a b d) {t : Af3} (ht : t ∈ d) : (∃ f ∈ a, f.1 = t.1) ∨ ∃ f ∈ b, f.1 = t.1 := by
 have h1 := (h.2 t.1 t.2).1 ht
 unfold AhU at h1
 cases h2 : D0 a t.1 with
 | some v => exact .inl ((Li a t.1).1 (by rw [h2]; rfl))
 | none =>
  cases h3 : D0 b t.1 with
  | some v => exact .inr ((Li b t.1).1 (by rw [h3]; rfl))
  | none => rw [h2, h3] at h1; cases h1
end Go.VS

/- TreeRestores. -/
set_option linter.unusedVariables false
set_option linter.unusedSimpArgs false
namespace Go.VS
variable {P : Pg}
theorem AlQ {a b : List Bh} {d : List Af3} (h : AgQ a b d) {t : Af3} (ht : t ∈ d) : t.2 = 1 ∨ t.2 = 2 ∨ t.2 = 3 := by
 have h1 := (h.2 t.1 t.2).1 ht
 unfold AhU at h1
 split at h1
 ·exact .inl (Option.some.inj h1).symm
 ·exact .inr (.inl (Option.some.inj h1).symm)
 ·split at h1
  ·cases h1
  ·exact .inr (.inr (Option.some.inj h1).symm)
 ·cases h1
theorem AlI {a b : List Bh} {d : List Af3} (h : AgQ a b d) : d.Pairwise fun x y => x.1 ≠ y.1 :=
 h.1.imp fun {x y} hxy e => by rw [e, N9] at hxy; cases hxy
theorem AlR {a b : List Bh} {d : List Af3} (h : AgQ a b d) : Ale d [] = true :=
 (Alx d []).2 ⟨fun x hx => by
  have := AlQ h hx
  exact ⟨by omega, by omega, fun hm => nomatch hm⟩, AlI h⟩
theorem Amd {a b : List Bh} {t : Af3} (h : AhU a b t.1 = some t.2) : Ald a b t = true := by
 unfold AhU at h
 unfold Ald
 cases h1 : D0 a t.1 with
 | none =>
  cases h2 : D0 b t.1 with
  | none => rw [h1, h2] at h; cases h
  | some v =>
   rw [h1, h2] at h
   have h : (1 : Int) = t.2 := Option.some.inj h
   rw [if_pos h.symm]
   rfl
 | some u =>
  cases h2 : D0 b t.1 with
  | none =>
   rw [h1, h2] at h
   have h : (2 : Int) = t.2 := Option.some.inj h
   rw [if_neg (by omega), if_pos h.symm]
   rfl
  | some v =>
   rw [h1, h2] at h
   dsimp only at h
   split at h
   ·cases h
   ·have h : (3 : Int) = t.2 := Option.some.inj h
    rw [if_neg (by omega), if_neg (by omega)]
    rfl
theorem AlS {a b : List Bh} {d : List Af3} (h : AgQ a b d) : d.all (Ald a b) = true :=
 List.all_eq_true.2 fun t ht => Amd ((h.2 t.1 t.2).1 ht)
theorem Ame {a b : List Bh} {p : Bs} {k : Int} (h : AhU a b p = some k) : (if k = 2 then none else some ((D0 b p).getD [])) = D0 b p := by
 unfold AhU at h
 cases h1 : D0 a p with
 | none =>
  cases h2 : D0 b p with
  | none => rw [h1, h2] at h; cases h
  | some v => rw [h1, h2] at h; cases h; rfl
 | some u =>
  cases h2 : D0 b p with
  | none => rw [h1, h2] at h; cases h; rfl
  | some v =>
   rw [h1, h2] at h
   dsimp only at h
   split at h
   ·cases h
   ·cases h; rfl
theorem Amc {a b : List Bh} {p : Bs} (h : AhU a b p = none) : D0 a p = D0 b p := by
 unfold AhU at h
 cases h1 : D0 a p with
 | none =>
  cases h2 : D0 b p with
  | none => rfl
  | some v => rw [h1, h2] at h; cases h
 | some u =>
  cases h2 : D0 b p with
  | none => rw [h1, h2] at h; cases h
  | some v =>
   rw [h1, h2] at h
   dsimp only at h
   split at h
   ·rename_i e; rw [e]
   ·cases h
theorem Al8 {a b : List Bh} {d : List Af3} (h : AgQ a b d) (p : Bs) : Alp a b d p = D0 b p := by
 unfold Alp
 cases hk : AhU a b p with
 | none =>
  rw [Alr d b _ fun x hx e => ?_, Amc hk]
  have := (h.2 x.1 x.2).1 hx
  rw [e, hk] at this
  cases this
 | some k =>
  have := AlD d b (D0 a) ((h.2 p k).2 hk) (AlI h)
  exact this.trans (Ame hk)
theorem AlW {l : List Bh} (h : V5 l) : Ali (D0 l) l := by
 refine ⟨List.pairwise_iff_getElem.2 fun i j hi hj hij => ?_, fun p v => h.Ajq.symm⟩
 have := (h j hj i hij).1
 unfold pth at this
 rwa [getD_eq hi, getD_eq hj] at this
theorem Air {a b : List Bh} (ha : Fm a = 0) (hb : Fm b = 0) : AgN a b = 0 := by
 unfold AgN
 rw [if_neg (by simpa using ha)]
 exact hb
theorem Al1 {a b : List Bh} {d : List Af3} (h : AgQ a b d) (ha : Fm a = 0) (hb : Fm b = 0) {r : List Bh × Int} (hr : Aln a b d r) : r = (b, 0) := by
 obtain ⟨o, ho, e⟩ := hr.2.2.2 (Air ha hb) (AlR h) (AlS h)
 have ht := AlW (AhK hb)
 have : o = b := AlT (g := D0 b) ⟨ho.1, fun p v => by rw [ho.2, Al8 h]⟩ ht
 subst this
 rw [e, if_neg (by simpa using hb)]
end Go.VS

/- ChangesRefuses. -/
set_option linter.unusedVariables false
set_option linter.unusedSimpArgs false
namespace Go.VS
variable {P : Pg}
def gA : List Ai := [([], (0, [([120], [97])]))]
theorem Ak3 {c : Int} (h : inR gA c) : c = 0 := by
 have h1 := h.1
 have h2 : c < 1 := h.2
 omega
theorem AkW : ∀ {c : Int}, inR gA c → A8 gA c = [] := fun {c} h => by rw [Ak3 h]; rfl
theorem Akk : Dt gA 0 := by
 have hm : ∀ c ∈ gA, c = ([], (0, [([120], [97])])) := fun c hc => List.mem_singleton.1 hc
 refine Oy ⟨by decide, fun c hc => ?_⟩ (fun c hc j hj => ?_) ?_ (fun c hc => ?_) ?_
 ·rw [hm c hc]; decide
 ·rw [hm c hc] at hj; exact absurd hj (by simp)
 ·rintro ⟨c, hc, p, hp, _⟩
  rw [AkW hc] at hp
  cases hp
 ·rw [hm c hc]; decide
 ·have : Fm [(([120] : List UInt8), ([97] : List UInt8))] = 0 := by decide
  show 0 = if Fm [(([120] : List UInt8), ([97] : List UInt8))] ≠ 0 then _ else _
  rw [if_neg (by simpa using this)]
  rfl
theorem Akl : Mt gA := fun c hc f hf => by
 have hc : c = ([], (0, [([120], [97])])) := List.mem_singleton.1 hc
 rw [hc] at hf
 have hf : f = ([120], [97]) := List.mem_singleton.1 hf
 rw [hf]
 decide
theorem AkJ : AgQ [] [(([120] : List UInt8), ([97] : List UInt8))] [([120], 1)] := by
 refine Ail (AhK (by decide)) (AhK (by decide)) ?_ (List.pairwise_singleton _ _)
 exact List.Perm.of_eq (by decide)
def Ag0 (P : Pg) : Prop := Fn P zS8 Agc () fun (d : Bool) _ => d = true
theorem AjO (h : Has P AgH) (hL : Aie P) (hP : Aiv P) (hG : AgF P) : Ag0 P := by
 refine AiF h ?_
 unfold AhO
 have h0 : inR gA 0 := ⟨Int.le_refl _, by decide⟩
 refine (hL (gA, 0) Akl Akk h0).to ?_
 rintro (d : List (List Af3) × Int) _ hd
 obtain ⟨l, e⟩ := d
 have hd : Ah2 gA 0 l ∧ e = 0 := hd
 obtain ⟨⟨hl, hk⟩, rfl⟩ := hd
 have hl : l.length = 1 := hl
 have hd0 : l.getD 0 [] = [(([120] : List UInt8), (1 : Int))] := by
  obtain ⟨e, he⟩ := hk 0 (by omega)
  have he : Aha [] [(([120] : List UInt8), ([97] : List UInt8))] (l.getD 0 [], e) := he
  have h1 : e = AgN [] [(([120] : List UInt8), ([97] : List UInt8))] := he.1
  have h2 : AgN [] [(([120] : List UInt8), ([97] : List UInt8))] = 0 := by decide
  exact Aim (he.2.2 (h1.trans h2)) AkJ
 refine (hP (gA, (0, (0, [120]))) Akl Akk h0 (Int.le_refl _) (by decide)).to ?_
 rintro (d : Bs × (Bs × Int)) _ hd
 have hd : d = (([] : List UInt8), (([97] : List UInt8), (0 : Int))) := hd.trans (by decide)
 subst hd
 dsimp only
 rw [hl]
 refine ⟨fun _ => ⟨by decide, by decide, by decide, ?_⟩, fun h => absurd h (by decide)⟩
 have h9 : (l.getD 0 []).length ≤ 1000000000 := by rw [hd0]; decide
 refine (hG (l.getD 0 [], [([120], 1)]) h9).to ?_
 rintro (d : Bool) _ hd
 have hd : d = decide (l.getD 0 [] = [(([120] : List UInt8), (1 : Int))]) := hd
 rw [hd0] at hd
 have hd : d = true := hd.trans (by decide)
 subst hd
 rfl
theorem Ag0.at (h : Ag0 P) {K : Bool → Unit → Prop} (hk : K true ()) : Fn P zS8 Agc () K :=
 Fn.to h fun (d : Bool) _ hd => by
  have hd : d = true := hd
  subst hd
  exact hk
end Go.VS

/- Words read back. -/
set_option linter.unusedVariables false
set_option linter.unusedSimpArgs false
namespace Go.VS
variable {P : Pg}
def up (l : Bs) : List Int := l.map fun b => ((b.toNat : Nat) : Int)
end Go.VS

/- ChangesLead. -/
set_option linter.unusedVariables false
set_option linter.unusedSimpArgs false
namespace Go.VS
variable {P : Pg}
theorem AlH (g : List Ai) (c : Int) : ((Af5 g c).length : Int) = if (1 : Int) > (((A8 g c).length : Nat) : Int) then (1 : Int) else (((A8 g c).length : Nat) : Int) := by
 unfold Af5
 split
 ·rename_i h; rw [if_pos (by omega)]; rfl
 ·rename_i h; rw [if_neg (by omega), List.length_map]
theorem AlG (h : Has P Alb) (hG : PS P) (hM : Jj P) (hL : Aie P) (hA : Alv P) (hQ : Alh P) (hAw : Ag0 P) (x : List Int × Int) :
  Fn P Acs Ak9 x fun (d : Bool) _ => d = true := by
 obtain ⟨raw, c⟩ := x
 refine Alk h ?_
 unfold Alf
 dsimp only
 refine (hG (raw, (6, 2)) ⟨show (0 : Int) ≤ 6 by decide, show (6 : Int) ≤ 9 by decide⟩ ⟨show (0 : Int) ≤ 2 by decide, show (2 : Int) ≤ 2 by decide⟩).to ?_
 rintro (g : List Ai) _ hg
 have hg : AaD 6 g := hg
 obtain ⟨hgl, hg0, hgs, hgT⟩ := hg
 refine ⟨fun _ => hAw.at rfl, fun hb => ?_⟩
 have hgn : ¬((g.length : Nat) : Int) = 0 := by simpa using hb
 refine hM.at (by omega) (by omega) ?_
 have hcr := EE (a := c) (n := (g.length : Int)) (by omega) (by omega)
 generalize F8 c (g.length : Int) = c at hcr ⊢
 have hin : inR g c := hcr
 have hc2 : c.toNat < g.length := by omega
 refine (hL (g, c) hgs hg0 hin).to ?_
 rintro (d : List (List Af3) × Int) _ hd
 obtain ⟨l, e⟩ := d
 have hd : Ah2 g c l ∧ e = 0 := hd
 obtain ⟨⟨hll, hlk⟩, rfl⟩ := hd
 have k0 := XR hg0
 have hmx : ((l.length : Nat) : Int) = if (1 : Int) > (((A8 g c).length : Nat) : Int) then (1 : Int) else (((A8 g c).length : Nat) : Int) := by rw [hll]; exact AlH g c
 have hF := Agq hg0 hgs hin
 have hpl := PF k0.1 c hin
 have hll2 : l.length ≤ 1000000 := by have := (Ah1 hpl).1; omega
 refine ⟨fun _ => hcr, fun _ => hc2, fun hb => ?_, fun _ => ?_⟩
 ·have hb : (((l.length : Nat) : Int) != if (1 : Int) > (((A8 g c).length : Nat) : Int) then (1 : Int) else (((A8 g c).length : Nat) : Int)) = true := hb
  rw [← hmx] at hb
  simp at hb
 refine Ad.mid (fun _ => True) ?_ fun _ _ => hAw.at rfl
 refine AF.of (fun q => (0 ≤ q.2 ∧ q.2 ≤ l.length)) (fun q => (l.length - q.2).toNat) ⟨Int.le_refl _, Int.natCast_nonneg _⟩ ?_
 rintro ⟨b, i⟩ ⟨i0, i1⟩
 dsimp only at i0 i1 ⊢
 refine ⟨fun hi => ?_, fun _ => trivial⟩
 have hi := of_decide_eq_true hi
 have hi2 : i.toNat < l.length := by omega
 have hiT : i.toNat < (Af5 g c).length := by omega
 refine Ad.mid (fun _ => True) ⟨hcr, hc2, ?_⟩ fun _ _ => by rw [w64 (by omega) (by omega)]; exact ⟨⟨by omega, by omega⟩, by omega⟩
 obtain ⟨e2, hdf⟩ := hlk i.toNat hi2
 have hT := Agt hg0 hgs hin _ (Br (d := []) hiT)
 have hdi : AgQ ((Af5 g c).getD i.toNat []) (Agd g c) (l.getD i.toNat []) := by
  refine hdf.2.2 ?_
  rw [hdf.1]
  unfold AgN
  rw [if_neg (by simpa using hT.1)]
  exact hF.1
 have hdl := AjC hdi
 have hTl := AjP hT.1
 have hFl := AjP hF.1
 have hdt : ∀ t ∈ l.getD i.toNat [], t.1.length ≤ 140737488351232 := fun t ht => by
  rcases Aje hdi ht with ⟨f, hf, e⟩ | ⟨f, hf, e⟩
  ·rw [← e]; exact (hT.2.2 f hf).1
  ·rw [← e]; exact (hF.2.2 f hf).1
 refine Ad.mid (fun t => t = (Af5 g c).getD i.toNat []) ⟨fun hb => ?_, fun hb => ?_⟩ fun t ht => ?_
 ·have hpos := of_decide_eq_true hb
  have hpos : (((A8 g c).length : Nat) : Int) > 0 := hpos
  have e : Af5 g c = (A8 g c).map fun p => Agd g p := by unfold Af5; rw [if_neg (by omega)]
  have hip : i.toNat < (A8 g c).length := by rw [e, List.length_map] at hiT; exact hiT
  have hp := HD k0.2.1 c hin _ (Br (d := 0) hip)
  refine ⟨hcr, hc2, ⟨i0, by show i < (((A8 g c).length : Nat) : Int); omega⟩, hip, ⟨hp.1, hp.2⟩, by have := hp.1; have := hp.2; show ((A8 g c).getD i.toNat 0).toNat < g.length; omega, ?_⟩
  have e5 : (Af5 g c).getD i.toNat [] = Agd g ((A8 g c).getD i.toNat 0) := by rw [e, getD_eq (by rw [List.length_map]; exact hip), List.getElem_map, getD_eq hip]
  exact e5.symm
 ·have hz := of_decide_eq_false hb
  have hz : ¬(((A8 g c).length : Nat) : Int) > 0 := hz
  have e : Af5 g c = [[]] := by unfold Af5; rw [if_pos (by omega)]
  rw [e] at hiT ⊢
  have : i.toNat = 0 := by simp at hiT; omega
  rw [this]
  rfl
 ·subst ht
  refine Ad.mid (fun r => r = (Agd g c, 0)) ⟨hcr, hc2, ⟨i0, hi⟩, hi2, ⟨hi2, ?_⟩, trivial⟩ fun r hr => ?_
  ·refine (hA ((Af5 g c).getD i.toNat [], (Agd g c, l.getD i.toNat [])) hT.2 hF.2 (by dsimp only; omega) hdt).to ?_
   rintro (r : List Bh × Int) _ hr
   have hr : Aln ((Af5 g c).getD i.toNat []) (Agd g c) (l.getD i.toNat []) r := hr
   have hre := Al1 hdi hT.1 hF.1 hr
   exact ⟨⟨⟨⟨hre, trivial⟩, trivial⟩, ⟨⟨hre, trivial⟩, trivial⟩, trivial⟩, ⟨⟨⟨hre, trivial⟩, trivial⟩, trivial⟩, trivial⟩
  ·subst hr
   refine ⟨fun _ => hcr, fun _ => hc2, ?_⟩
   refine Ad.mid (fun q => q = true) ⟨fun _ => (hQ (Agd g c, Agd g c) (by dsimp only; omega)).to ?_, fun hb => absurd hb (by simp), trivial⟩ fun q hq => ?_
   ·rintro (q : Bool) _ hq
    exact hq.trans (by simp)
   ·subst hq
    exact ⟨fun hb => absurd hb (by simp), fun _ => trivial⟩
end Go.VS
