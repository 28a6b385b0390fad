/- The document's performing of differences. -/
import Derived.Test.YtbpbcfiodckhjaaDoorKSpApp
import Derived.Test.YtbpbcfiodckhjaaDoorKSpDiff4
set_option linter.unusedVariables false
set_option linter.unusedSimpArgs false
namespace Go.VS
variable {P : Pg}
def okD (d : List A0) (j : Nat) : Prop := (1 ≤ (d.getD j ([], 0)).2 ∧ (d.getD j ([], 0)).2 ≤ 3) ∧ ∀ k, k < j → (d.getD k ([], 0)).1 ≠ (d.getD j ([], 0)).1
theorem Abj (d : List A0) : AaL d [] = true ↔ ∀ j, j < d.length → okD d j := by
 rw [AaZ]
 constructor
 ·rintro ⟨h1, h2⟩ j hj
  have h3 := h1 _ (D8 (d := ([], 0)) hj)
  refine ⟨⟨h3.1, h3.2.1⟩, fun k hk => ?_⟩
  rw [getD_eq hj, getD_eq (by omega)]
  exact List.pairwise_iff_getElem.1 h2 k j (by omega) hj hk
 ·intro h
  refine ⟨fun x hx => ?_, List.pairwise_iff_getElem.2 fun i j hi hj hij => ?_⟩
  ·obtain ⟨j, hj⟩ := List.getElem?_of_mem hx
   obtain ⟨hl, he⟩ := List.getElem?_eq_some_iff.1 hj
   have := (h j hl).1
   rw [getD_eq hl, he] at this
   exact ⟨this.1, this.2, fun hm => nomatch hm⟩
  ·have := (h j hj).2 i hij
   rw [getD_eq hj, getD_eq hi] at this
   exact this
theorem Abo {d : List A0} {j : Nat} (hj : j < d.length) (h : ¬ okD d j) : AaL d [] = false := by
 rw [Bool.eq_false_iff]
 intro hp
 exact h ((Abj d).1 hp j hj)
theorem Abg {l : List Aw} (h : Gn l) (p : Bs) : findF l p = ((AU l p).getD [], (AU l p).isSome) := by
 rw [K0 h.ne]
 cases AU l p <;> rfl
theorem Aca {a b : List Aw} {x : A0} (h1 : 1 ≤ x.2) (h3 : x.2 ≤ 3) :
  cond (cond (x.2 != 2) (!(AU b x.1).isSome) false) true (!((AU a x.1).isSome == (x.2 != 1))) = !AaJ a b x := by
 unfold AaJ
 have : x.2 = 1 ∨ x.2 = 2 ∨ x.2 = 3 := by omega
 rcases this with h | h | h <;> rw [h] <;> cases (AU a x.1).isSome <;> cases (AU b x.1).isSome <;> rfl
theorem AbA (h : Ht P) {l : List Aw} (ol : Gn l) (hl : l.length ≤ 1000000) {q p : Bs} (e : q = p) {K : Bs × Bool → Unit → Prop} (hk : K ((AU l p).getD [], (AU l p).isSome) ()) : Fn P zS0 BE (l, q) K := by
 subst e
 exact h.at hl (by rw [Abg ol]; exact hk)
def AaY (g : Bs → Option Bs) (l : List Bs) : List Aw := l.filterMap fun p => (g p).map fun v => (p, v)
theorem AbN {g : Bs → Option Bs} {l : List Bs} (hs : l.Pairwise fun x y => Op.bytesLess x y = true) (hg : ∀ p, (g p).isSome = true → p ∈ l) : AaU g (AaY g l) := by
 have hk : ∀ p t, (g p).map (fun v => (p, v)) = some t → t.1 = p ∧ g p = some t.2 := fun p t ht => by
  obtain ⟨v, hv, rfl⟩ := Option.map_eq_some_iff.1 ht
  exact ⟨rfl, hv⟩
 refine ⟨?_, fun p v => ?_⟩
 ·refine List.Pairwise.filterMap _ (fun x y hxy t ht u hu => ?_) hs
  rw [(hk x t ht).1, (hk y u hu).1]
  exact hxy
 ·unfold AaY
  rw [List.mem_filterMap]
  constructor
  ·rintro ⟨q, hq, ht⟩
   obtain ⟨h1, h2⟩ := hk q _ ht
   have h1 : p = q := h1
   subst h1
   exact h2
  ·intro hp
   exact ⟨p, hg p (by rw [hp]; rfl), by rw [hp]; rfl⟩
theorem AbO {a b : List Aw} {d : List A0} (hd : d.Pairwise fun x y => x.1 ≠ y.1) (hp : d.all (AaJ a b) = true) {p : Bs} (h : (AaP a b d p).isSome = true) : (AU a p).isSome = true ∨ (AU b p).isSome = true := by
 by_cases hm : ∃ x ∈ d, x.1 = p
 ·obtain ⟨x, hx, rfl⟩ := hm
  have h1 := List.all_eq_true.1 hp x hx
  unfold AaP at h
  rw [Abv d b _ hx hd] at h
  split at h
  ·cases h
  ·rename_i h2
   unfold AaJ at h1
   split at h1
   ·rw [Bool.and_eq_true] at h1; exact .inr h1.1
   ·rw [Bool.and_eq_true] at h1
    exact .inr h1.2
 ·unfold AaP at h
  rw [Abf d b _ fun x hx e => hm ⟨x, hx, e⟩] at h
  exact .inl h
theorem Aa4 : ∀ {l : List Aw} {p v : Bs}, AU l p = some v → (p, v) ∈ l
 | [], _, _, h => nomatch h
 | f :: r, p, v, h => by
  rw [AU] at h
  cases hb : AU r p with
  | some u =>
   rw [hb] at h
   cases h
   exact List.mem_cons_of_mem _ (Aa4 hb)
  | none =>
   rw [hb] at h
   dsimp only at h
   split at h
   ·rename_i e
    cases h
    rw [e]
    exact List.mem_cons_self ..
   ·cases h
theorem AbP {b : List Aw} (hb : CH b) : ∀ (d : List A0) (g : Bs → Option Bs), (∀ t ∈ d, t.1.length ≤ 140737488351232) → (∀ p v, g p = some v → p.length ≤ 140737488351232 ∧ v.length ≤ 140737488351232) → ∀ p v, d.foldl (stepG b) g p = some v → p.length ≤ 140737488351232 ∧ v.length ≤ 140737488351232
 | [], g, _, hg, p, v, h => hg p v h
 | x :: d, g, hd, hg, p, v, h => by
  rw [List.foldl_cons] at h
  refine AbP hb d (stepG b g x) (fun t ht => hd t (List.mem_cons_of_mem _ ht)) (fun q u hq => ?_) p v h
  unfold stepG at hq
  split at hq
  ·rename_i e
   split at hq
   ·cases hq
   ·cases hq
    refine ⟨by rw [e]; exact hd x (List.mem_cons_self ..), ?_⟩
    cases hbx : AU b x.1 with
    | none => exact Nat.zero_le _
    | some u => exact (hb.2 _ (Aa4 hbx)).2
  ·exact hg q u hq
theorem Abr {a b : List Aw} {d : List A0} (ha : CH a) (hb : CH b) (hd : ∀ t ∈ d, t.1.length ≤ 140737488351232) {p v : Bs} (h : AaP a b d p = some v) : p.length ≤ 140737488351232 ∧ v.length ≤ 140737488351232 :=
 AbP hb d (AU a) hd (fun p v hg => ha.2 _ (Aa4 hg)) p v h
theorem AaV {l : List Aw} (h : Eu l = 0) : l.length ≤ 200 := by
 unfold Eu at h
 split at h
 ·cases h
 ·omega
theorem Abe {a b : List Aw} {d : List A0} (hca : Eu a = 0) (hcb : Eu b = 0) (ha : CH a) (hb : CH b) (hd : ∀ t ∈ d, t.1.length ≤ 140737488351232) (hdp : d.Pairwise fun x y => x.1 ≠ y.1) (hp : d.all (AaJ a b) = true) {o : List Aw} (h : AaU (AaP a b d) o) : CH o := by
 have hn : (o.map (·.1)).Nodup := by
  rw [List.nodup_iff_pairwise_ne, List.pairwise_map]
  refine h.1.imp fun {x y} hxy e => ?_
  rw [e, DT] at hxy
  cases hxy
 have hs : ∀ p ∈ o.map (·.1), p ∈ (a ++ b).map (·.1) := fun p hm => by
  obtain ⟨t, ht, rfl⟩ := List.mem_map.1 hm
  have h1 := (h.2 t.1 t.2).1 ht
  rw [List.map_append, List.mem_append]
  rcases AbO hdp hp (p := t.1) (by rw [h1]; rfl) with h2 | h2
  ·obtain ⟨f, hf, e⟩ := (CN a t.1).1 h2
   exact .inl (List.mem_map.2 ⟨f, hf, e⟩)
  ·obtain ⟨f, hf, e⟩ := (CN b t.1).1 h2
   exact .inr (List.mem_map.2 ⟨f, hf, e⟩)
 have hl := OK hn hs
 rw [List.length_map, List.length_map, List.length_append] at hl
 have h1 := AaV hca
 have h2 := AaV hcb
 exact ⟨by omega, fun f hf => Abr ha hb hd ((h.2 f.1 f.2).1 hf)⟩
theorem Ab5 {a b : List Aw} {l : List Bs} (h : Gath a b l a.length b.length) {p : Bs} (hp : (AU a p).isSome = true ∨ (AU b p).isSome = true) : p ∈ l := by
 refine (h.mem p).2 ?_
 rcases hp with hp | hp
 ·obtain ⟨f, hf, e⟩ := (CN a p).1 hp
  obtain ⟨m, hm⟩ := List.getElem?_of_mem hf
  obtain ⟨hl, he⟩ := List.getElem?_eq_some_iff.1 hm
  exact .inl ⟨m, hl, hl, by unfold pth; rw [getD_eq hl, he, e]⟩
 ·obtain ⟨f, hf, e⟩ := (CN b p).1 hp
  obtain ⟨m, hm⟩ := List.getElem?_of_mem hf
  obtain ⟨hl, he⟩ := List.getElem?_eq_some_iff.1 hm
  exact .inr ⟨m, hl, hl, by unfold pth; rw [getD_eq hl, he, e]⟩
theorem AbM {g : Bs → Option Bs} {l : List Bs} {i : Nat} (hi : i < l.length) : AaY g (l.take (i + 1)) = AaY g (l.take i) ++ ((g (l.getD i [])).map fun v => (l.getD i [], v)).toList := by
 unfold AaY
 rw [List.take_add_one, List.getElem?_eq_getElem hi, List.filterMap_append, List.getD_eq_getElem?_getD, List.getElem?_eq_getElem hi]
 simp only [Option.toList_some, Option.getD_some]
 cases h : g l[i] with
 | none => simp [h]
 | some v => simp [h]
def Aa6 (P : Pg) : Prop := ∀ x : List Aw × (List Aw × List A0), CH x.1 → CH x.2.1 → x.2.2.length ≤ 1000000 → (∀ t ∈ x.2.2, t.1.length ≤ 140737488351232) → Fn P S0 AaG x fun (r : List Aw × Int) _ => AaK x.1 x.2.1 x.2.2 r
theorem Ab0 (h : Has P AaO) (hC : DE P) (hF : Ht P) (hP : KE P) : Aa6 P := by
 rintro ⟨a, b, d⟩ ha hb hdl hdt
 dsimp only at ha hb hdl hdt
 have hna := ha.1
 have hnb := hb.1
 refine Abh h ?_
 unfold Aa2
 dsimp only
 refine hC.at ha ⟨fun hc => ?_, fun hc => ?_⟩
 ·have hc : Eu a ≠ 0 := by simpa using hc
  have hbo : Hl a b = Eu a := by unfold Hl; rw [if_pos hc]
  exact ⟨fun _ => by rw [hbo], fun h => absurd h (by rw [hbo]; exact hc), fun h => absurd h (by rw [hbo]; exact hc), fun h => absurd h (by rw [hbo]; exact hc)⟩
 have hca : Eu a = 0 := by simpa using hc
 clear hc
 refine hC.at hb ⟨fun hc => ?_, fun hc => ?_⟩
 ·have hc : Eu b ≠ 0 := by simpa using hc
  have hbo : Hl a b = Eu b := by unfold Hl; rw [if_neg (by simpa using hca)]
  exact ⟨fun _ => by rw [hbo], fun h => absurd h (by rw [hbo]; exact hc), fun h => absurd h (by rw [hbo]; exact hc), fun h => absurd h (by rw [hbo]; exact hc)⟩
 have hcb : Eu b = 0 := by simpa using hc
 clear hc
 have hbo : Hl a b = 0 := by unfold Hl; rw [if_neg (by simpa using hca)]; exact hcb
 have oa := LV hca
 have ob := LV hcb
 have err2 : AaL d [] = false → AaK a b d ([], 2) := fun hp => ⟨fun h => absurd hbo h, fun _ _ => rfl, fun _ h => (by rw [hp] at h; cases h), fun _ h => (by rw [hp] at h; cases h)⟩
 refine Ar.mid (fun _ => AaL d [] = true) ?_ ?_
 ·refine BU.of (fun q => (0 ≤ q.2.2 ∧ q.2.2 ≤ d.length) ∧ ∀ j, j < q.2.2.toNat → okD d j) (fun q => (d.length - q.2.2).toNat) ⟨⟨Int.le_refl _, Int.natCast_nonneg _⟩, fun j hj => absurd hj (by simp)⟩ ?_
  rintro ⟨o, z, i⟩ ⟨⟨i0, i1⟩, hok⟩
  dsimp only at i0 i1 hok ⊢
  refine ⟨fun hi => ?_, fun hi => ?_⟩
  ·have hi := of_decide_eq_true hi
   have hi2 : i.toNat < d.length := by omega
   refine Ar.mid (fun _ => okD d i.toNat) ⟨⟨i0, hi⟩, hi2, fun _ => ⟨i0, hi⟩, fun _ => hi2, fun hc => ?_, fun hc => ?_⟩ fun q hq => ?_
   ·refine err2 (Abo hi2 fun hk => ?_)
    have h1 := hk.1
    rw [Bool.cond_eq_ite] at hc
    split at hc
    ·rename_i h2; have := of_decide_eq_true h2; omega
    ·have := of_decide_eq_true hc; omega
   ·have hkd : 1 ≤ (d.getD i.toNat ([], 0)).2 ∧ (d.getD i.toNat ([], 0)).2 ≤ 3 := by
     rw [Bool.cond_eq_ite] at hc
     split at hc
     ·cases hc
     ·rename_i h2
      have h3 := of_decide_eq_false hc
      have h4 : ¬ (d.getD i.toNat ([], 0)).2 < 1 := fun h => h2 (decide_eq_true h)
      omega
    refine Ar.mid (fun _ => ∀ k, k < i.toNat → (d.getD k ([], 0)).1 ≠ (d.getD i.toNat ([], 0)).1) ?_ fun q hq => ⟨hkd, hq⟩
    refine BU.of (fun q => (0 ≤ q.2.2 ∧ q.2.2 ≤ i) ∧ ∀ k, k < q.2.2.toNat → (d.getD k ([], 0)).1 ≠ (d.getD i.toNat ([], 0)).1) (fun q => (i - q.2.2).toNat) ⟨⟨Int.le_refl _, i0⟩, fun j hj => absurd hj (by simp)⟩ ?_
    rintro ⟨o', z', k⟩ ⟨⟨k0, k1⟩, hk⟩
    dsimp only at k0 k1 hk ⊢
    refine ⟨fun hki => ?_, fun hki => ?_⟩
    ·have hki := of_decide_eq_true hki
     refine Ar.mid (fun _ => (d.getD k.toNat ([], 0)).1 ≠ (d.getD i.toNat ([], 0)).1) ⟨⟨k0, by omega⟩, by omega, ⟨i0, hi⟩, hi2, fun he => ?_, fun he => beq_eq_false_iff_ne.1 he⟩ fun q hq => ?_
     ·exact err2 (Abo hi2 fun hk2 => hk2.2 k.toNat (by omega) (beq_iff_eq.1 he))
     ·rw [w64 (by omega) (by omega)]
      refine ⟨⟨⟨by omega, by omega⟩, fun m hm => ?_⟩, by omega⟩
      by_cases e : m = k.toNat
      ·subst e; exact hq
      ·exact hk m (by omega)
    ·have hki := of_decide_eq_false hki
     intro m hm
     exact hk m (by omega)
   ·rw [w64 (by omega) (by omega)]
    refine ⟨⟨⟨by omega, by omega⟩, fun m hm => ?_⟩, by omega⟩
    by_cases e : m = i.toNat
    ·subst e; exact hq
    ·exact hok m (by omega)
  ·have hi := of_decide_eq_false hi
   exact (Abj d).2 fun j hj => hok j (by omega)
 intro q1 hperm
 have hok := (Abj d).1 hperm
 have err5 : d.all (AaJ a b) = false → AaK a b d ([], 5) := fun hp => ⟨fun h => absurd hbo h, fun _ h => (by rw [hperm] at h; cases h), fun _ _ _ => rfl, fun _ _ h => (by rw [hp] at h; cases h)⟩
 refine Ar.mid (fun _ => d.all (AaJ a b) = true) ?_ ?_
 ·refine BU.of (fun q => (0 ≤ q.2.2 ∧ q.2.2 ≤ d.length) ∧ ∀ j, j < q.2.2.toNat → AaJ a b (d.getD j ([], 0)) = true) (fun q => (d.length - q.2.2).toNat) ⟨⟨Int.le_refl _, Int.natCast_nonneg _⟩, fun j hj => absurd hj (by simp)⟩ ?_
  rintro ⟨o, z, i⟩ ⟨⟨i0, i1⟩, hps⟩
  dsimp only at i0 i1 hps ⊢
  refine ⟨fun hi => ?_, fun hi => ?_⟩
  ·have hi := of_decide_eq_true hi
   have hi2 : i.toNat < d.length := by omega
   have hkd := (hok i.toNat hi2).1
   have hpe := Aca (a := a) (b := b) hkd.1 hkd.2
   refine Ar.mid (fun _ => AaJ a b (d.getD i.toNat ([], 0)) = true) ⟨⟨i0, hi⟩, hi2, hF.at hna ?_⟩ fun q hq => ?_
   ·rw [Abg oa]
    refine ⟨⟨i0, hi⟩, hi2, hF.at hnb ?_⟩
    rw [Abg ob]
    dsimp only
    rw [hpe]
    refine ⟨⟨i0, hi⟩, hi2, fun _ => ⟨i0, hi⟩, fun _ => hi2, fun hc => ?_, fun hc => by simpa using hc⟩
    refine err5 (List.all_eq_false.2 ⟨_, D8 (d := ([], 0)) hi2, ?_⟩)
    simpa using hc
   ·rw [w64 (by omega) (by omega)]
    refine ⟨⟨⟨by omega, by omega⟩, fun m hm => ?_⟩, by omega⟩
    by_cases e : m = i.toNat
    ·subst e; exact hq
    ·exact hps m (by omega)
  ·have hi := of_decide_eq_false hi
   refine List.all_eq_true.2 fun x hx => ?_
   obtain ⟨j, hj⟩ := List.getElem?_of_mem hx
   obtain ⟨hl, he⟩ := List.getElem?_eq_some_iff.1 hj
   have := hps j (by omega)
   rwa [getD_eq hl, he] at this
 intro q2 hposs
 refine (hP (a, b) ha hb oa ob).to ?_
 rintro (l : List Bs) _ hl
 have hl : Gath a b l a.length b.length := hl
 have hll := hl.len
 have hdp := ((AaZ d []).1 hperm).2
 refine Ar.mid (fun o => o = AaY (AaP a b d) l) ?_ ?_
 ·refine BU.of (fun q => (0 ≤ q.2 ∧ q.2 ≤ l.length) ∧ q.1 = AaY (AaP a b d) (l.take q.2.toNat)) (fun q => (l.length - q.2).toNat) ⟨⟨Int.le_refl _, Int.natCast_nonneg _⟩, rfl⟩ ?_
  rintro ⟨o, i⟩ ⟨⟨i0, i1⟩, ho⟩
  dsimp only at i0 i1 ho ⊢
  refine ⟨fun hi => ?_, fun hi => ?_⟩
  ·have hi := of_decide_eq_true hi
   have hi2 : i.toNat < l.length := by omega
   have hnx := AbM (g := AaP a b d) hi2
   rw [← ho] at hnx
   have hol : o.length ≤ l.length := by rw [ho]; exact Nat.le_trans (List.length_filterMap_le ..) (by rw [List.length_take]; omega)
   obtain ⟨p, hp⟩ : ∃ p, l.getD i.toNat [] = p := ⟨_, rfl⟩
   rw [hp] at hnx
   refine Ar.mid (fun q => q = AaY (AaP a b d) (l.take (i.toNat + 1))) ⟨⟨i0, hi⟩, hi2, ?_⟩ fun q hq => ?_
   ·refine AbA hF oa hna hp ?_
    rw [hp]
    dsimp only
    refine Ar.mid (fun q => q.2 = (AaP a b d p).isSome ∧ ∀ v, AaP a b d p = some v → q.1 = v) ?_ ?_
    ·refine BU.of (fun q => (0 ≤ q.2.2 ∧ q.2.2 ≤ d.length) ∧ q.2.1 = ((d.take q.2.2.toNat).foldl (stepG b) (AU a) p).isSome ∧ ∀ v, (d.take q.2.2.toNat).foldl (stepG b) (AU a) p = some v → q.1 = v) (fun q => (d.length - q.2.2).toNat) ⟨⟨Int.le_refl _, Int.natCast_nonneg _⟩, rfl, fun v hv => by
      have hv : AU a p = some v := hv
      rw [hv]; rfl⟩ ?_
     rintro ⟨bl, ins, k⟩ ⟨⟨k0, k1⟩, h1, h2⟩
     dsimp only at k0 k1 h1 h2 ⊢
     refine ⟨fun hk => ?_, fun hk => ?_⟩
     ·have hk := of_decide_eq_true hk
      have hk2 : k.toNat < d.length := by omega
      have hst : (d.take (k.toNat + 1)).foldl (stepG b) (AU a) p = stepG b ((d.take k.toNat).foldl (stepG b) (AU a)) (d.getD k.toNat ([], 0)) p := by
       rw [List.take_add_one, List.getElem?_eq_getElem hk2, List.foldl_append, List.getD_eq_getElem?_getD, List.getElem?_eq_getElem hk2]
       rfl
      generalize (d.take k.toNat).foldl (stepG b) (AU a) = old at h1 h2 hst
      generalize d.getD k.toNat ([], 0) = x at hst ⊢
      refine Ar.mid (fun q => q.2 = (stepG b old x p).isSome ∧ ∀ v, stepG b old x p = some v → q.1 = v) ⟨⟨k0, by omega⟩, hk2, ⟨i0, hi⟩, hi2, fun hc => ?_, fun hc => ?_⟩ fun q hq => ?_
      ·have hne : ¬ p = x.1 := fun e => by rw [e] at hc; simp at hc
       unfold stepG
       rw [if_neg hne]
       exact ⟨h1, h2⟩
      ·have he : x.1 = p := by simpa using hc
       refine ⟨⟨k0, by omega⟩, hk2, ?_⟩
       refine Ar.mid (fun bl' => x.2 ≠ 2 → bl' = (AU b p).getD []) ⟨fun hc2 => ⟨⟨i0, hi⟩, hi2, AbA hF ob hnb hp ?_⟩, fun hc2 h => absurd (by simpa using hc2) h⟩ fun bl' hb' => ?_
       ·exact fun _ => rfl
       ·unfold stepG
        rw [if_pos he.symm]
        by_cases h2 : x.2 = 2
        ·rw [if_pos h2, h2]
         exact ⟨rfl, fun v hv => nomatch hv⟩
        ·rw [if_neg h2]
         refine ⟨by simpa using h2, fun v hv => ?_⟩
         cases hv
         rw [he]
         exact hb' h2
      ·rw [w64 (by omega) (by omega)]
       refine ⟨⟨⟨by omega, by omega⟩, ?_⟩, by omega⟩
       rw [show (k + 1).toNat = k.toNat + 1 by omega, hst]
       exact hq
     ·have hk := of_decide_eq_false hk
      have hke : d.take k.toNat = d := List.take_of_length_le (by omega)
      rw [hke] at h1 h2
      exact ⟨h1, h2⟩
    ·rintro ⟨bl, ins⟩ ⟨h1, h2⟩
     dsimp only at h1 h2 ⊢
     refine Ar.mid (fun q => q = AaY (AaP a b d) (l.take (i.toNat + 1))) ⟨fun hc => ?_, fun hc => ?_⟩ fun _ h => h
     ·rw [hc] at h1
      obtain ⟨v, hv⟩ := Option.isSome_iff_exists.1 h1.symm
      rw [hv] at hnx
      have hb1 := h2 v hv
      subst hb1
      refine ⟨⟨i0, hi⟩, hi2, by simp only [List.length_cons, List.length_nil]; omega, ?_⟩
      exact hnx.symm
     ·rw [hc] at h1
      have hv : AaP a b d p = none := by cases h3 : AaP a b d p with
       | none => rfl
       | some v => rw [h3] at h1; cases h1
      rw [hv] at hnx
      rw [hnx]
      exact (List.append_nil o).symm
   ·subst hq
    rw [w64 (by omega) (by omega)]
    exact ⟨⟨⟨by omega, by omega⟩, by rw [show (i + 1).toNat = i.toNat + 1 by omega]⟩, by omega⟩
  ·have hi := of_decide_eq_false hi
   rw [ho, List.take_of_length_le (by omega)]
 ·rintro o rfl
  have hT := AbN (g := AaP a b d) hl.srt fun p hp => Ab5 hl (AbO hdp hposs hp)
  have hlt : CH (AaY (AaP a b d) l) := Abe hca hcb ha hb hdt hdp hposs hT
  generalize AaY (AaP a b d) l = o at hT hlt ⊢
  have fin : ∀ r, r = (if Eu o ≠ 0 then (([] : List Aw), Eu o) else (o, 0)) → AaK a b d r := fun r hr => ⟨fun h => absurd hbo h, fun _ h => (by rw [hperm] at h; cases h), fun _ _ h => (by rw [hposs] at h; cases h), fun _ _ _ => ⟨o, hT, hr⟩⟩
  refine hC.at hlt ⟨fun hc => ?_, fun hc => ?_⟩
  ·have hc : Eu o ≠ 0 := by simpa using hc
   exact fin _ (by rw [if_pos hc])
  ·have hc : Eu o = 0 := by simpa using hc
   exact fin _ (by rw [if_neg (by simpa using hc)])
end Go.VS
