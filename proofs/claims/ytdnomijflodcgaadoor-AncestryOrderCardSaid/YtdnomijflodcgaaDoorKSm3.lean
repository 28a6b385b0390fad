import Derived.Test.YtdnomijflodcgaaDoorKSm2
import Derived.Test.YtdnomijflodcgaaDoorKSm0
import Derived.Lib.ItoaNum
/- Ancestors: the program's search, Ancestors, Is. -/
set_option linter.unusedVariables false
set_option linter.unusedSimpArgs false
namespace Go.VS
variable {P : Pg}
structure AeY (g : List Aq) (c e : Int) (s : List Bool) (o : List Int) : Prop where
 len : s.length = g.length
 base : inS s c
 snd : ∀ x, 0 ≤ x → inS s x → Rch g c x
 opn : ∀ x ∈ o, inR g x ∧ inS s x
 clo : ∀ x, inR g x → inS s x → x ∉ o → x ≠ e → ∀ p ∈ BF g x, inS s p
 cnt : o.length ≤ s.count true
def AeS (s : List Bool) (o : List Int) : Nat := 2 * (s.length - s.count true) + o.length
theorem Agg {s : List Bool} {p : Int} (hp : p.toNat < s.length) (h : ¬inS s p) : (s.set p.toNat true).count true = s.count true + 1 := by
 unfold inS at h
 rw [getD_eq hp] at h
 have h : s[p.toNat] = false := by simpa using h
 rw [List.count_set hp, h]
 simp
theorem AeY.push {g : List Aq} {c e p : Int} {s : List Bool} {o : List Int} (h : AeY g c e s o) (he : 0 ≤ e) (hs : inS s e) (hp : p ∈ BF g e) (hr : inR g p) (hn : ¬inS s p) : AeY g c e (s.set p.toNat true) (o ++ [p]) ∧ AeS (s.set p.toNat true) (o ++ [p]) < AeS s o := by
 have hpl : p.toNat < s.length := by have := h.len; have := hr.1; have := hr.2; omega
 have hc := Agg hpl hn
 have hcl : (s.set p.toNat true).count true ≤ (s.set p.toNat true).length := List.count_le_length
 rw [List.length_set] at hcl
 refine ⟨⟨by rw [List.length_set]; exact h.len, AeG.2 _ h.base, fun x h0 hx => ?_, fun x hx => ?_, fun x hx hi hno hne q hq => ?_, ?_⟩, ?_⟩
 ·rcases (AeE hpl hr.1 h0).1 hx with rfl | hx
  ·exact (h.snd e he hs).snoc hp
  ·exact h.snd x h0 hx
 ·rcases List.mem_append.1 hx with hx | hx
  ·exact ⟨(h.opn x hx).1, AeG.2 _ (h.opn x hx).2⟩
  ·rw [List.mem_singleton.1 hx]
   exact ⟨hr, (AeE hpl hr.1 hr.1).2 (.inl rfl)⟩
 ·have hno1 : x ∉ o := fun k => hno (List.mem_append_left _ k)
  have hno2 : x ≠ p := fun k => hno (List.mem_append_right _ (by rw [k]; exact List.mem_singleton_self _))
  rcases (AeE hpl hr.1 hx.1).1 hi with k | hi
  ·exact absurd k hno2
  ·exact AeG.2 _ (h.clo x hx hi hno1 hne q hq)
 ·have := h.cnt
  rw [List.length_append, hc]
  simp only [List.length_cons, List.length_nil]
  omega
 ·unfold AeS
  rw [List.length_set, List.length_append, hc]
  simp only [List.length_cons, List.length_nil]
  omega
theorem AeY.pop {g : List Aq} {c : Int} {s : List Bool} {o : List Int} (h : AeY g c (-1) s o) (ho : 0 < o.length) : AeY g c (o.getD (o.length - 1) 0) s (o.take (o.length - 1)) ∧ AeS s (o.take (o.length - 1)) < AeS s o ∧ o.getD (o.length - 1) 0 ∈ o := by
 have hm : o.getD (o.length - 1) 0 ∈ o := BK (by omega)
 have hsp : o = o.take (o.length - 1) ++ [o.getD (o.length - 1) 0] := by
  rw [getD_eq (by omega), List.take_append_getElem (by omega), Nat.sub_add_cancel ho, List.take_length]
 refine ⟨⟨h.len, h.base, h.snd, fun x hx => h.opn x (List.mem_of_mem_take hx), fun x hx hi hno hne => h.clo x hx hi (fun k => ?_) (fun k => by have := hx.1; omega), ?_⟩, ?_, hm⟩
 ·rw [hsp] at k
  rcases List.mem_append.1 k with k | k
  ·exact hno k
  ·exact hne (List.mem_singleton.1 k)
 ·have := h.cnt
  rw [List.length_take]
  omega
 ·unfold AeS
  rw [List.length_take]
  omega
theorem AeY.done {g : List Aq} {c e : Int} {s : List Bool} {o : List Int} (h : AeY g c e s o) (hp : ∀ p ∈ BF g e, inS s p) : AeY g c (-1) s o :=
 ⟨h.len, h.base, h.snd, h.opn, fun x hx hi hno _ => by
  by_cases k : x = e
  ·rw [k]; exact hp
  ·exact h.clo x hx hi hno k, h.cnt⟩
def Ae2 (P : Pg) : Prop := ∀ x : List Aq × Int, x.1.length ≤ 1000000 → Vl x.1 → (∀ c, inR x.1 c → (BF x.1 c).length ≤ 1000000) → inR x.1 x.2 → Fn P WQ Aek x fun (d : List Bool) _ => Aft x.1 [x.2] d
theorem AgO (h : Has P Aer) : Ae2 P := by
 rintro ⟨g, c⟩ hn hv hpl hc
 dsimp only at hn hv hpl hc
 refine AeO h ?_
 unfold AeD
 dsimp only
 have hc2 : c.toNat < g.length := by have := hc.1; have := hc.2; omega
 have hrl : (List.replicate (Int.toNat ((g.length : Nat) : Int)) false).length = g.length := by simp
 generalize hs0 : List.replicate (Int.toNat ((g.length : Nat) : Int)) false = s0 at hrl
 have hnone : ∀ x, ¬inS s0 x := fun x hx => by
  have hl := AgA hx
  rw [← hs0] at hl hx
  unfold inS at hx
  rw [Pv (by simpa using hl)] at hx
  cases hx
 refine ⟨⟨Int.natCast_nonneg _, Int.le_refl _, by omega⟩, ⟨hc.1, by rw [hrl]; exact hc.2⟩, by omega, ?_⟩
 refine Ai.mid (fun s => Aft g [c] s) ?_ fun _ h => h
 refine Bl.of (fun q => AeY g c (-1) q.1 q.2) (fun q => AeS q.1 q.2) ⟨by rw [List.length_set]; exact hrl, (AeE (by omega) hc.1 hc.1).2 (.inl rfl), fun x h0 hx => ?_, fun x hx => ?_, fun x hx hi hno => ?_, ?_⟩ ?_
 ·rcases (AeE (by omega) hc.1 h0).1 hx with rfl | hx
  ·exact .refl _
  ·exact absurd hx (hnone x)
 ·rw [List.mem_singleton.1 hx]
  exact ⟨hc, (AeE (by omega) hc.1 hc.1).2 (.inl rfl)⟩
 ·rcases (AeE (by omega) hc.1 hx.1).1 hi with rfl | hi
  ·exact absurd (List.mem_singleton_self _) hno
  ·exact absurd hi (hnone x)
 ·dsimp only
  rw [Agg (by omega) (hnone c)]
  simp
 rintro ⟨s, o⟩ hI
 dsimp only at hI ⊢
 have hcl : s.count true ≤ s.length := List.count_le_length
 have hol : o.length ≤ 1000000 := by have := hI.cnt; have := hI.len; omega
 refine ⟨fun ho => ?_, fun ho => ?_⟩
 ·have ho := of_decide_eq_true ho
  have ho2 : 0 < o.length := by omega
  have ew : IntKind.i64.wrap (((o.length : Nat) : Int) - 1) = ((o.length - 1 : Nat) : Int) := by rw [w64 (by omega) (by omega)]; omega
  obtain ⟨hP, hPm, hlm⟩ := hI.pop ho2
  obtain ⟨hlr, hls⟩ := hI.opn _ hlm
  rw [ew, Int.toNat_natCast, List.drop_zero]
  generalize o.getD (o.length - 1) 0 = e at hP hlm hlr hls
  have he2 : e.toNat < g.length := by have := hlr.1; have := hlr.2; omega
  refine Ai.mid (fun q => AeY g c (-1) q.1 q.2 ∧ AeS q.1 q.2 < AeS s o) ?_ fun _ h => h
  refine ⟨⟨by omega, by omega⟩, by omega, ⟨by omega, by omega⟩, by omega, ⟨hlr.1, hlr.2⟩, he2, ?_⟩
  refine Ai.mid (fun q => AeY g c (-1) q.1 q.2 ∧ AeS q.1 q.2 < AeS s o) ?_ fun _ h => h
  have hple := hpl e hlr
  have hve := hv e hlr
  show Bl _ _
  refine Bl.of (fun q => (0 ≤ q.2.2 ∧ q.2.2 ≤ (BF g e).length) ∧ AeY g c e q.1 q.2.1 ∧ inS q.1 e ∧ (∀ p ∈ (BF g e).take q.2.2.toNat, inS q.1 p) ∧ AeS q.1 q.2.1 < AeS s o) (fun q => ((BF g e).length - q.2.2).toNat) ⟨⟨Int.le_refl _, Int.natCast_nonneg _⟩, hP, hls, fun _ hp => by simp at hp, hPm⟩ ?_
  rintro ⟨t, u, i⟩ ⟨⟨i0, i1⟩, hT, hte, hpr, hms⟩
  dsimp only at i0 i1 hT hte hpr hms ⊢
  have htc : t.count true ≤ t.length := List.count_le_length
  have hul : u.length ≤ 1000000 := by have := hT.cnt; have := hT.len; omega
  refine ⟨fun hi => ?_, fun hi => ?_⟩
  ·have hi := of_decide_eq_true hi
   have hi : i < (((BF g e).length : Nat) : Int) := hi
   have hi2 : i.toNat < (BF g e).length := by omega
   have hpm : (BF g e).getD i.toNat 0 ∈ BF g e := BK hi2
   have hpr2 := hve _ hpm
   have hnx : ∀ q ∈ (BF g e).take (i.toNat + 1), q ∈ (BF g e).take i.toNat ∨ q = (BF g e).getD i.toNat 0 := fun q hq => by
    rw [Ke (d := 0) hi2] at hq
    rcases List.mem_append.1 hq with hq | hq
    ·exact .inl hq
    ·exact .inr (List.mem_singleton.1 hq)
   have hpl2 : ((BF g e).getD i.toNat 0).toNat < t.length := by have := hT.len; have := hpr2.1; have := hpr2.2; omega
   have hpl3 : (BF g e).getD i.toNat 0 < ((t.length : Nat) : Int) := by have := hT.len; have := hpr2.2; omega
   refine Ai.mid (fun q => AeY g c e q.1 q.2 ∧ inS q.1 e ∧ (∀ p ∈ (BF g e).take (i.toNat + 1), inS q.1 p) ∧ AeS q.1 q.2 < AeS s o) ⟨⟨i0, hi⟩, hi2, ⟨hpr2.1, hpl3⟩, hpl2, ?_⟩ fun q hq => by
    rw [w64 (by omega) (by omega)]
    exact ⟨⟨⟨by omega, by omega⟩, hq.1, hq.2.1, by rw [show (i + 1).toNat = i.toNat + 1 by omega]; exact hq.2.2.1, hq.2.2.2⟩, by omega⟩
   refine Ai.mid (fun q => AeY g c e q.1 q.2 ∧ inS q.1 e ∧ (∀ p ∈ (BF g e).take (i.toNat + 1), inS q.1 p) ∧ AeS q.1 q.2 < AeS s o) ⟨fun hb => ?_, fun hb => ?_⟩ fun _ h => h
   ·have hno : ¬inS t ((BF g e).getD i.toNat 0) := fun k => by
     have k : t.getD ((BF g e).getD i.toNat 0).toNat false = true := k
     have hb : (!t.getD ((BF g e).getD i.toNat 0).toNat false) = true := hb
     rw [k] at hb
     cases hb
    obtain ⟨h1, h2⟩ := hT.push hlr.1 hte hpm hpr2 hno
    refine ⟨⟨hpr2.1, hpl3⟩, hpl2, by simp only [List.length_cons, List.length_nil]; omega, h1, AeG.2 _ hte, fun q hq => ?_, Nat.lt_trans h2 hms⟩
    rcases hnx q hq with hq | rfl
    ·exact AeG.2 _ (hpr q hq)
    ·exact (AeE hpl2 hpr2.1 hpr2.1).2 (.inl rfl)
   ·refine ⟨hT, hte, fun q hq => ?_, hms⟩
    rcases hnx q hq with hq | rfl
    ·exact hpr q hq
    ·have hb : (!t.getD ((BF g e).getD i.toNat 0).toNat false) = false := hb
     show t.getD ((BF g e).getD i.toNat 0).toNat false = true
     simpa using hb
  ·have hi := of_decide_eq_false hi
   have hi : ¬i < (((BF g e).length : Nat) : Int) := hi
   rw [List.take_of_length_le (by omega)] at hpr
   exact ⟨hT.done hpr, hms⟩
 ·have ho := of_decide_eq_false ho
  have ho : o = [] := List.length_eq_zero_iff.1 (by omega)
  subst ho
  refine ⟨hI.len, fun x hx => ⟨fun h => ⟨c, List.mem_singleton_self _, hI.snd x hx.1 h⟩, ?_⟩⟩
  rintro ⟨f, hf, hr⟩
  rw [List.mem_singleton.1 hf] at hr
  exact Age hv (fun y hy hi => hI.clo y hy hi (by simp) (fun k => by have := hy.1; omega)) hr hc hI.base
def AeC (P : Pg) : Prop := ∀ x : List Aq × List Int, MR x.1 → x.2.length ≤ 1000000 → Fn P WO Aeo x fun (d : Int) _ => ∃ e, DF x.1 e ∧ (e ≠ 0 → d = e) ∧ (e = 0 → ((∀ c ∈ x.2, inR x.1 c) → d = 0) ∧ (¬(∀ c ∈ x.2, inR x.1 c) → d = 5))
theorem AfX (h : Has P Aeu) (hI : Has P LK) (hD : Jk P) : AeC P := by
 rintro ⟨g, l⟩ hs hl
 refine Ae4 h ?_
 unfold AeK
 dsimp only at hs hl ⊢
 refine (hD g hs).to ?_
 rintro (e : Int) _ he
 have he : DF g e := he
 refine ⟨fun hb => ⟨e, he, fun _ => rfl, fun h0 => absurd h0 (by simpa using hb)⟩, fun hb => ?_⟩
 have h0 : e = 0 := by simpa using hb
 refine Ai.mid (fun _ => ∀ c ∈ l, inR g c) ?_ fun _ ha => ⟨e, he, fun k => absurd h0 k, fun _ => ⟨fun _ => rfl, fun k => absurd ha k⟩⟩
 refine Bl.of (fun q => (0 ≤ q.2 ∧ q.2 ≤ l.length) ∧ ∀ c ∈ l.take q.2.toNat, inR g c) (fun q => (l.length - q.2).toNat) ⟨⟨Int.le_refl _, Int.natCast_nonneg _⟩, fun c hc => by simp at hc⟩ ?_
 rintro ⟨q, i⟩ ⟨⟨i0, i1⟩, ha⟩
 dsimp only at i0 i1 ha ⊢
 refine ⟨fun hi => ?_, fun hi => ?_⟩
 ·have hi := of_decide_eq_true hi
  have hi2 : i.toNat < l.length := by omega
  refine Ai.mid (fun _ => inR g (l.getD i.toNat 0)) ⟨⟨i0, hi⟩, hi2, X3 hI ?_⟩ fun _ hr => ?_
  ·unfold Tm
   dsimp only
   have hii := AcH g (l.getD i.toNat 0)
   refine ⟨fun hb => ⟨e, he, fun k => absurd h0 k, fun _ => ⟨fun k => ?_, fun _ => rfl⟩⟩, fun hb => hii.1 (Bool.not_inj (show (!_) = (!true) from hb))⟩
   exact absurd ((hii.2 (k _ (BK hi2))).symm.trans (Bool.not_inj (show (!_) = (!false) from hb))) (by decide)
  ·rw [w64 (by omega) (by omega)]
   refine ⟨⟨⟨by omega, by omega⟩, fun c hc => ?_⟩, by omega⟩
   rw [show (i + 1).toNat = i.toNat + 1 by omega, Ke (d := 0) hi2] at hc
   rcases List.mem_append.1 hc with hc | hc
   ·exact ha c hc
   ·rw [List.mem_singleton.1 hc]; exact hr
 ·have hi := of_decide_eq_false hi
  rw [List.take_of_length_le (by omega)] at ha
  exact ha
def AhY (P : Pg) : Prop := ∀ x : List Aq × Int, MR x.1 → Fn P AaM Ahi x fun (d : List Int × Int) _ => Aiw x.1 x.2 d
theorem Ae3 {g : List Aq} (h : DF g 0) : g.length ≤ 1000000 ∧ Vl g ∧ (∀ c, inR g c → (BF g c).length ≤ 1000000) := by
 obtain ⟨h1, h2, _⟩ := Ep h
 exact ⟨by have := h1.1; omega, Fq h2, Mr h1⟩
theorem AeN {g : List Aq} {c : Int} {s : List Bool} (h : Aft g [c] s) {x : Int} (hx : inR g x) : s.getD x.toNat false = true ↔ Rch g c x := by
 refine (h.2 x hx).trans ⟨?_, fun k => ⟨c, List.mem_singleton_self _, k⟩⟩
 rintro ⟨f, hf, k⟩
 rwa [List.mem_singleton.1 hf] at k
theorem Ais (h : Has P Ahq) (hC : AeC P) (hA : Ae2 P) : AhY P := by
 rintro ⟨g, c⟩ hs
 dsimp only at hs
 refine AhQ h ?_
 unfold AhD
 dsimp only
 refine (hC (g, [c]) hs (by simp)).to ?_
 rintro (r : Int) _ ⟨e, he, h1, h2⟩
 dsimp only at he h1 h2
 have hall : (∀ x ∈ [c], inR g x) ↔ inR g c := ⟨fun k => k c (List.mem_singleton_self _), fun k x hx => by rw [List.mem_singleton.1 hx]; exact k⟩
 rw [hall] at h2
 by_cases hk : e = 0
 ·subst hk
  by_cases hc : inR g c
  ·have hr := (h2 rfl).1 hc
   subst hr
   refine ⟨fun hb => absurd hb (by simp), fun _ => ?_⟩
   obtain ⟨hn, hv, hpl⟩ := Ae3 he
   refine (hA (g, c) hn hv hpl hc).to ?_
   rintro (s : List Bool) _ hS
   have hS : Aft g [c] s := hS
   have hsl := hS.1
   refine Ai.mid (fun d => d = (rng g.length).filter fun x => s.getD x.toNat false) ?_ fun d hd => ⟨0, he, fun h => absurd rfl h, fun _ h => absurd hc h, fun _ _ => ⟨⟨fun x => s.getD x.toNat false, fun x hx => AeN hS hx, hd⟩, rfl⟩⟩
   refine Bl.of (fun q => (0 ≤ q.2 ∧ q.2 ≤ s.length) ∧ q.1 = (rng q.2.toNat).filter fun x => s.getD x.toNat false) (fun q => (s.length - q.2).toNat) ⟨⟨Int.le_refl _, Int.natCast_nonneg _⟩, rfl⟩ ?_
   rintro ⟨q, i⟩ ⟨⟨i0, i1⟩, hq⟩
   dsimp only at i0 i1 hq ⊢
   have hql : q.length ≤ 1000000 := by rw [hq]; refine Nat.le_trans (List.length_filter_le _ _) ?_; rw [IL]; omega
   refine ⟨fun hi => ?_, fun hi => ?_⟩
   ·have hi := of_decide_eq_true hi
    have hi2 : i.toNat < s.length := by omega
    have hnx : (rng (i.toNat + 1)).filter (fun x => s.getD x.toNat false) = q ++ (if s.getD i.toNat false = true then [i] else []) := by
     rw [Aae, List.filter_append, ← hq, show ((i.toNat : Nat) : Int) = i by omega]
     congr 1
     simp only [List.filter_cons, List.filter_nil]
    refine Ai.mid (fun d => d = (rng (i.toNat + 1)).filter fun x => s.getD x.toNat false) ⟨⟨i0, hi⟩, hi2, ?_⟩ fun d hd => by
     rw [w64 (by omega) (by omega)]
     exact ⟨⟨⟨by omega, by omega⟩, by rw [show (i + 1).toNat = i.toNat + 1 by omega]; exact hd⟩, by omega⟩
    refine Ai.mid (fun d => d = (rng (i.toNat + 1)).filter fun x => s.getD x.toNat false) ⟨fun hb => ⟨by simp only [List.length_cons, List.length_nil]; omega, ?_⟩, fun hb => ?_⟩ fun _ h => h
    ·rw [hnx, if_pos hb]
    ·rw [hnx, if_neg (by rw [hb]; simp), List.append_nil]
   ·have hi := of_decide_eq_false hi
    show q = _
    rw [hq, show i.toNat = g.length by omega]
  ·have hr := (h2 rfl).2 hc
   subst hr
   exact ⟨fun _ => ⟨0, he, fun h => absurd rfl h, fun _ _ => rfl, fun _ h => absurd h hc⟩, fun hb => absurd hb (by simp)⟩
 ·have hr := h1 hk
  subst hr
  exact ⟨fun _ => ⟨_, he, fun _ => rfl, fun h => absurd h hk, fun h => absurd h hk⟩, fun hb => absurd hb (by simpa using hk)⟩
def Ah5 (P : Pg) : Prop := ∀ x : List Aq × (Int × Int), MR x.1 → Fn P zS2 Ahn x fun (d : Bool × Int) _ => AiE x.1 x.2.1 x.2.2 d
theorem Aiz (h : Has P Ahz) (hC : AeC P) (hA : Ae2 P) : Ah5 P := by
 rintro ⟨g, a, c⟩ hs
 dsimp only at hs
 refine Ah6 h ?_
 unfold AhT
 dsimp only
 refine (hC (g, [a, c]) hs (by simp)).to ?_
 rintro (r : Int) _ ⟨e, he, h1, h2⟩
 dsimp only at he h1 h2
 have hall : (∀ x ∈ [a, c], inR g x) ↔ inR g a ∧ inR g c := by simp
 rw [hall] at h2
 by_cases hk : e = 0
 ·subst hk
  by_cases hc : inR g a ∧ inR g c
  ·have hr := (h2 rfl).1 hc
   subst hr
   refine ⟨fun hb => absurd hb (by simp), fun _ => ?_⟩
   obtain ⟨hn, hv, hpl⟩ := Ae3 he
   refine (hA (g, c) hn hv hpl hc.2).to ?_
   rintro (s : List Bool) _ hS
   have hS : Aft g [c] s := hS
   have hsl := hS.1
   have ha := hc.1
   exact ⟨⟨ha.1, by rw [hsl]; exact ha.2⟩, by have := ha.1; have := ha.2; omega, 0, he, fun h => absurd rfl h, fun _ h => absurd hc h, fun _ _ => ⟨AeN hS ha, rfl⟩⟩
  ·have hr := (h2 rfl).2 hc
   subst hr
   exact ⟨fun _ => ⟨0, he, fun h => absurd rfl h, fun _ _ => rfl, fun _ h => absurd h hc⟩, fun hb => absurd hb (by simp)⟩
 ·have hr := h1 hk
  subst hr
  exact ⟨fun _ => ⟨_, he, fun _ => rfl, fun h => absurd h hk, fun h => absurd h hk⟩, fun hb => absurd hb (by simpa using hk)⟩
end Go.VS

/- Lists of numbers, compared. -/
set_option linter.unusedVariables false
set_option linter.unusedSimpArgs false
namespace Go.VS
variable {P : Pg}
def AeU (P : Pg) : Prop := ∀ x : List Int × List Int, x.1.length ≤ 140737488351232 → Fn P zS9 Aem x fun (d : Bool) _ => d = true ↔ x.1 = x.2
theorem AgP (h : Has P AeL) : AeU P := by
 rintro ⟨l, m⟩ hl
 refine AfM h ?_
 unfold Afj
 dsimp only at hl ⊢
 refine ⟨fun hc => ?_, fun hc => ?_⟩
 ·simp at hc
  exact ⟨fun h => (nomatch h), fun h => by rw [h] at hc; exact (hc rfl).elim⟩
 simp at hc
 refine Ai.mid (fun _ => l = m) ?_ fun d hd => ⟨fun _ => hd, fun _ => rfl⟩
 refine Bl.of (fun d => 0 ≤ d.2 ∧ d.2 ≤ l.length ∧ ∀ k : Nat, (k : Int) < d.2 → l.getD k 0 = m.getD k 0) (fun d => (l.length - d.2).toNat) ⟨Int.le_refl _, by dsimp only; omega, fun k hk => by dsimp only at hk; omega⟩ ?_
 rintro ⟨u, k⟩ ⟨k0, k1, hk⟩
 dsimp only at k0 k1 hk ⊢
 refine ⟨fun hb => Ai.of ?_, fun hb => ?_⟩
 ·have hb := of_decide_eq_true hb
  rw [w64 (by omega) (by omega)]
  refine ⟨⟨k0, hb⟩, by omega, ⟨k0, by omega⟩, by omega, fun he => ?_, fun he => ?_⟩
  ·simp [-List.getD_eq_getElem?_getD] at he
   exact ⟨fun h => (nomatch h), fun h => by subst h; simp at he⟩
  ·simp [-List.getD_eq_getElem?_getD] at he
   refine ⟨⟨by omega, by omega, fun k' hk' => ?_⟩, by omega⟩
   by_cases e : k' = k.toNat
   ·subst e; exact he
   ·exact hk k' (by omega)
 ·have hb := of_decide_eq_false hb
  exact Zz 0 (by omega) fun i hi => hk i (by omega)
end Go.VS

/- The laws on ancestors, from what Bases and Independent answer. -/
set_option linter.unusedVariables false
set_option linter.unusedSimpArgs false
namespace Go.VS
variable {P : Pg}
def AeT (P : Pg) : Prop := ∀ x : List Aq × (Int × Int), MR x.1 → Fn P AaO Aen x fun (d : List Int × Int) _ => Aev x.1 x.2.1 x.2.2 d
def AfC (P : Pg) : Prop := ∀ x : List Aq × List Int, MR x.1 → x.2.length ≤ 1000000 → Fn P Ab4 Aep x fun (d : List Int × Int) _ => Afz x.1 x.2 d
theorem Afi.good {α : Type} {g : List Aq} {ok : Prop} {z : α} {good : α → Prop} {d : α × Int} (h : Afi g ok z good d) (h0 : DF g 0) (hok : ok) : good d.1 ∧ d.2 = 0 := by
 obtain ⟨e, he, _, _, h4⟩ := h
 exact h4 (IE he h0) hok
def gB : List Aq := [([], (0, [])), ([0], (5, [])), ([0], (7, []))]
theorem AgV {c : Int} (h : inR gB c) : c = 0 ∨ c = 1 ∨ c = 2 := by
 have h1 := h.1
 have h2 : c < 3 := h.2
 omega
theorem AfF {c p : Int} (hc : inR gB c) (h : p ∈ BF gB c) : p = 0 ∧ c ≠ 0 := by
 rcases AgV hc with rfl | rfl | rfl
 ·exact nomatch (show p ∈ ([] : List Int) from h)
 ·exact ⟨List.mem_singleton.1 h, by decide⟩
 ·exact ⟨List.mem_singleton.1 h, by decide⟩
theorem Agw : DF gB 0 := by
 have hm : ∀ c ∈ gB, c = ([], (0, [])) ∨ c = ([0], (5, [])) ∨ c = ([0], (7, [])) := fun c hc => by simpa [gB] using hc
 have hr : HN gB := fun c hc j hj => by
  rcases hm c hc with rfl | rfl | rfl
  ·exact absurd hj (by simp)
  ·have : j = 0 := by simpa using hj
   subst this
   exact ⟨by decide, by decide⟩
  ·have : j = 0 := by simpa using hj
   subst this
   exact ⟨by decide, by decide⟩
 refine SB ⟨by decide, fun c hc => ?_⟩ hr (AcO (Fq hr) (fun x => x) fun c hc p hp => ?_) (fun c hc => ?_) ?_
 ·rcases hm c hc with rfl | rfl | rfl <;> decide
 ·obtain ⟨h1, h2⟩ := AfF hc hp
  have := hc.1
  show p < c
  omega
 ·rcases hm c hc with rfl | rfl | rfl <;> decide
 ·exact (Qo fun c hc => by rcases hm c hc with rfl | rfl | rfl <;> decide).symm
theorem Agx : MR gB := fun c hc f hf => by
 have : c.2.2 = [] := by
  have hm : c = ([], (0, [])) ∨ c = ([0], (5, [])) ∨ c = ([0], (7, [])) := by simpa [gB] using hc
  rcases hm with rfl | rfl | rfl <;> rfl
 rw [this] at hf
 cases hf
theorem Af6 {a x : Int} (ha : inR gB a) (h : Rch gB a x) : x = a ∨ x = 0 := by
 cases h with
 | refl => exact .inl rfl
 | step hp t =>
  obtain ⟨rfl, _⟩ := AfF ha hp
  cases t with
  | refl => exact .inr rfl
  | step hq _ => exact absurd rfl (AfF (c := 0) ⟨by decide, by decide⟩ hq).2
theorem AfG {a : Int} (ha : a = 1 ∨ a = 2) : Rch gB a 0 := by
 rcases ha with rfl | rfl
 ·exact .step (p := 0) (List.mem_singleton_self _) (.refl 0)
 ·exact .step (p := 0) (List.mem_singleton_self _) (.refl 0)
def AeH (P : Pg) : Prop := Fn P Vm Ael () fun (d : Bool) _ => d = true
theorem Agb (h : Has P Aez) (hB : AeT P) (hI : AfC P) (hT : AeU P) : AeH P := by
 refine Afk h ?_
 unfold AeW
 have i1 : inR gB 1 := ⟨by decide, by decide⟩
 have i2 : inR gB 2 := ⟨by decide, by decide⟩
 have i0 : inR gB 0 := ⟨by decide, by decide⟩
 refine (hB (gB, (1, 2)) Agx).to ?_
 rintro (d : List Int × Int) _ hd
 obtain ⟨d, e⟩ := d
 have hd : Aev gB 1 2 (d, e) := hd
 unfold Aev at hd
 obtain ⟨⟨L, hL, hd⟩, he⟩ := hd.good Agw ⟨i1, i2⟩
 have he : e = 0 := he
 subst he
 have hL0 : L = [0] := Ae0 hL (Afn (p := fun x => x = 0) (List.pairwise_singleton _ _) fun x => by
  rw [List.mem_singleton]
  exact ⟨fun h => ⟨h ▸ i0, h⟩, fun h => h.2⟩) fun x hx => ⟨fun h => by
   have h1 := Af6 i1 h.1
   have h2 := Af6 i2 h.2
   omega, fun h => by rw [h]; exact ⟨AfG (.inl rfl), AfG (.inr rfl)⟩⟩
 subst hL0
 have hd0 : d = [0] := AeZ hd ⟨fun _ => true, fun x hx => ⟨fun _ => by
  rintro ⟨f, hf, hne, _⟩
  rw [List.mem_singleton] at hx hf
  exact hne (hf.trans hx.symm), fun _ => rfl⟩, rfl⟩
 subst hd0
 refine (hI (gB, [0, 1, 2]) Agx (by decide)).to ?_
 rintro (d : List Int × Int) _ hd
 obtain ⟨d, e⟩ := d
 have hd : Afz gB [0, 1, 2] (d, e) := hd
 unfold Afz at hd
 have hm : ∀ x ∈ ([0, 1, 2] : List Int), inR gB x := fun x hx => by
  have : x = 0 ∨ x = 1 ∨ x = 2 := by simpa using hx
  rcases this with rfl | rfl | rfl <;> assumption
 obtain ⟨⟨L, hL, hd⟩, he⟩ := hd.good Agw hm
 have he : e = 0 := he
 subst he
 have hL0 : L = [0, 1, 2] := Ae0 hL (Afn (p := fun x => x ∈ ([0, 1, 2] : List Int)) (by decide) fun x => ⟨fun h => ⟨hm x h, h⟩, fun h => h.2⟩) fun x hx => Iff.rfl
 subst hL0
 have hd0 : d = [1, 2] := AeZ hd ⟨fun x => decide (x ≠ 0), fun x hx => by
  rw [decide_eq_true_eq]
  constructor
  ·rintro h0 ⟨f, hf, hne, hr⟩
   rcases Af6 (hm f hf) hr with h | h
   ·exact hne h.symm
   ·exact h0 h
  ·rintro h rfl
   exact h ⟨1, by decide, by decide, AfG (.inl rfl)⟩, rfl⟩
 subst hd0
 dsimp only
 refine ⟨fun _ => ?_, fun hb => absurd hb (by decide)⟩
 refine (hT ([0], [0]) (by decide)).to ?_
 rintro (d : Bool) _ hd
 have hd : d = true := hd.2 rfl
 subst hd
 refine ⟨fun _ => ?_, fun hb => absurd hb (by decide)⟩
 refine (hT ([1, 2], [1, 2]) (by decide)).to ?_
 rintro (d : Bool) _ hd
 have hd : d = true := hd.2 rfl
 subst hd
 rfl
theorem AeH.at (h : AeH P) {K : Bool → Unit → Prop} (hk : K true ()) : Fn P Vm Ael () K :=
 Fn.to h fun (d : Bool) _ hd => by
  have hd : d = true := hd
  subst hd
  exact hk
theorem AiL (h : Has P AiG) (hG : OP P) (hM : Iu P) (hA : AhY P) (hIs : Ah5 P) (hH : Ahc P) (hAw : AeH P) (x : List Int × (Int × (Int × Int))) :
  Fn P Ab5 AiF x fun (d : Bool) _ => d = true := by
 obtain ⟨raw, a, b, c⟩ := x
 refine AiJ h ?_
 unfold AiI
 dsimp only
 refine (hG (raw, (9, 1)) ⟨show (0 : Int) ≤ 9 by decide, show (9 : Int) ≤ 9 by decide⟩ ⟨show (0 : Int) ≤ 1 by decide, show (1 : Int) ≤ 2 by decide⟩).to ?_
 rintro (g : List Aq) _ hg
 have hg : YX 9 g := hg
 obtain ⟨hgl, hg0, hgs, hgT⟩ := hg
 refine ⟨fun _ => hAw.at rfl, fun hb => ?_⟩
 have hgn : ¬((g.length : Nat) : Int) = 0 := by simpa using hb
 refine hM.at (by omega) (by omega) (hM.at (by omega) (by omega) (hM.at (by omega) (by omega) ?_))
 have ra := DV (a := a) (n := (g.length : Int)) (by omega) (by omega)
 have rb := DV (a := b) (n := (g.length : Int)) (by omega) (by omega)
 have rc := DV (a := c) (n := (g.length : Int)) (by omega) (by omega)
 generalize FB a (g.length : Int) = a at ra ⊢
 generalize FB b (g.length : Int) = b at rb ⊢
 generalize FB c (g.length : Int) = c at rc ⊢
 have ra : inR g a := ra
 have rb : inR g b := rb
 have rc : inR g c := rc
 obtain ⟨hn, hv, hpl⟩ := Ae3 hg0
 have hcy := (Ep hg0).2.2.1
 have is : ∀ {a c : Int}, inR g a → inR g c → ∀ {K : Bool × Int → Unit → Prop}, (∀ q : Bool, (q = true ↔ Rch g c a) → K (q, 0) ()) → Fn P zS2 Ahn (g, (a, c)) K := fun {a c} ha hc {K} hk => by
  refine (hIs (g, (a, c)) hgs).to ?_
  rintro (d : Bool × Int) _ hd
  obtain ⟨q, e⟩ := d
  obtain ⟨h1, h2⟩ := Afi.good (show AiE g a c (q, e) from hd) hg0 ⟨ha, hc⟩
  have h2 : e = 0 := h2
  subst h2
  exact hk q h1
 refine is ra ra fun aa haa => is ra rb fun ab hab => is rb ra fun ba hba => is rb rc fun bc hbc => is ra rc fun ac hac => ?_
 refine (hA (g, b) hgs).to ?_
 rintro (d : List Int × Int) _ hd
 obtain ⟨l, e⟩ := d
 obtain ⟨hl, h2⟩ := Afi.good (show Aiw g b (l, e) from hd) hg0 rb
 have h2 : e = 0 := h2
 subst h2
 have hl : AeB g (Rch g b) l := hl
 dsimp only
 have haa1 : aa = true := haa.2 (.refl a)
 have h3 : cond (cond ab bc false) (!ac) false = false := by
  cases h : ab <;> cases h' : bc <;> simp
  have := hac.2 ((hbc.1 h').trans (hab.1 h))
  exact this
 have h4 : cond (cond ab ba false) (a != b) false = false := by
  cases h : ab <;> cases h' : ba <;> simp
  exact AfV hv hcy ra (hba.1 h') (hab.1 h)
 have h00 : ((0 : Int) != 0) = false := by decide
 simp only [h00, haa1, h3, h4, cond_false, Bool.not_true]
 refine Ai.mid (fun q => q = ab) ⟨fun _ => (hH (l, a) (by have := hl.len; dsimp only; omega)).to ?_, fun hb => absurd hb (by decide), trivial⟩ fun q hq => ?_
 ·rintro (q : Bool) _ hq
  have hq : q = true ↔ a ∈ l := hq
  have : q = true ↔ ab = true := by
   rw [hq, hl.mem, hab]
   exact ⟨fun h => h.2, fun h => ⟨ra, h⟩⟩
  cases q <;> cases ab <;> simp_all
 ·subst hq
  refine ⟨fun hb => absurd hb (by simp), fun _ => ?_⟩
  refine Ai.mid (fun _ => True) ?_ fun _ _ => hAw.at rfl
  have hc2 : c.toNat < g.length := by have := rc.1; have := rc.2; omega
  have hpc := hpl c rc
  refine Bl.of (fun q => 0 ≤ q.2 ∧ q.2 ≤ (BF g c).length) (fun q => ((BF g c).length - q.2).toNat) ⟨Int.le_refl _, Int.natCast_nonneg _⟩ ?_
  rintro ⟨q, i⟩ ⟨i0, i1⟩
  dsimp only at i0 i1 ⊢
  refine ⟨⟨rc.1, rc.2⟩, hc2, fun hi => ?_, fun _ => trivial⟩
  have hi := of_decide_eq_true hi
  have hi : i < (((BF g c).length : Nat) : Int) := hi
  have hi2 : i.toNat < (BF g c).length := by omega
  have hpm : (BF g c).getD i.toNat 0 ∈ BF g c := BK hi2
  refine Ai.mid (fun _ => True) ⟨⟨rc.1, rc.2⟩, hc2, ⟨i0, hi⟩, hi2, ?_⟩ fun _ _ => by rw [w64 (by omega) (by omega)]; exact ⟨⟨by omega, by omega⟩, by omega⟩
  refine is (hv c rc _ hpm) rc fun q hq => ?_
  have hq : q = true := hq.2 (.step hpm (.refl _))
  subst hq
  exact ⟨fun hb => absurd hb (by decide), fun _ => trivial⟩
end Go.VS

/- Words read back. -/
set_option linter.unusedVariables false
set_option linter.unusedSimpArgs false
namespace Go.VS
variable {P : Pg}
def up (l : Bs) : List Int := l.map fun b => ((b.toNat : Nat) : Int)
end Go.VS
