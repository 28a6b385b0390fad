/- Graphs: who reaches whom; the document's marking. -/
import Derived.Test.YtdnomijflodcgaaDoorKSpTree
set_option linter.unusedVariables false
set_option linter.unusedSimpArgs false
namespace Go.VS
variable {P : Pg}
abbrev Aq := List Int × (Int × List AA)
def BF (g : List Aq) (c : Int) : List Int := (g.getD c.toNat ([], (0, []))).1
def inR (g : List Aq) (c : Int) : Prop := 0 ≤ c ∧ c < g.length
def Vl (g : List Aq) : Prop := ∀ c, inR g c → ∀ p ∈ BF g c, inR g p
inductive Rch (g : List Aq) : Int → Int → Prop
 | refl (c : Int) : Rch g c c
 | step {c p x : Int} (h : p ∈ BF g c) (t : Rch g p x) : Rch g c x
theorem Rch.trans {g : List Aq} {a b c : Int} (h : Rch g a b) (k : Rch g b c) : Rch g a c := by
 induction h with
 | refl => exact k
 | step h _ ih => exact .step h (ih k)
theorem Rch.snoc {g : List Aq} {a b p : Int} (h : Rch g a b) (k : p ∈ BF g b) : Rch g a p := h.trans (.step k (.refl p))
theorem Rch.inR {g : List Aq} (hv : Vl g) {a b : Int} (h : Rch g a b) (ha : inR g a) : Go.VS.inR g b := by
 induction h with
 | refl => exact ha
 | step h _ ih => exact ih (hv _ ha _ h)
def inS (s : List Bool) (x : Int) : Prop := s.getD x.toNat false = true
def Afg (s t : List Bool) : Prop := s.length = t.length ∧ ∀ i, s.getD i false = true → t.getD i false = true
theorem Afg.refl (s : List Bool) : Afg s s := ⟨rfl, fun _ h => h⟩
theorem Afg.trans {s t u : List Bool} (h : Afg s t) (k : Afg t u) : Afg s u := ⟨h.1.trans k.1, fun i hi => k.2 i (h.2 i hi)⟩
theorem AfY : ∀ {s t : List Bool}, Afg s t → s.count true ≤ t.count true ∧ (s.count true = t.count true → s = t)
 | [], [], _ => ⟨Nat.le_refl _, fun _ => rfl⟩
 | [], _ :: _, h => by cases h.1
 | _ :: _, [], h => by cases h.1
 | a :: s, b :: t, h => by
  have hr : Afg s t := ⟨by have := h.1; simpa using this, fun i hi => by have := h.2 (i + 1); simp only [List.getD_cons_succ] at this; exact this hi⟩
  have h0 := h.2 0
  simp only [List.getD_cons_zero] at h0
  obtain ⟨h1, h2⟩ := AfY hr
  rw [List.count_cons, List.count_cons]
  cases a <;> cases b <;> simp at h0 ⊢
  ·exact ⟨h1, h2⟩
  ·exact ⟨by omega, by omega⟩
  ·exact ⟨h1, h2⟩
theorem AfK : ∀ {s : List Bool}, s.length ≤ s.count true → ∀ i, i < s.length → s.getD i false = true
 | [], _, i, hi => absurd hi (Nat.not_lt_zero _)
 | a :: s, h, i, hi => by
  rw [List.count_cons] at h
  have hc := List.count_le_length (a := true) (l := s)
  rw [List.length_cons] at h
  cases a with
  | false => simp at h; omega
  | true =>
   cases i with
   | zero => rfl
   | succ i =>
    simp only [beq_self_eq_true, if_true] at h
    rw [List.getD_cons_succ]
    exact AfK (by omega) i (by simpa using hi)
theorem AgF {s : List Bool} {i : Nat} (h : s.getD i false = true) : s.set i true = s := by
 refine Zz false (by rw [List.length_set]) fun j hj => ?_
 rw [List.length_set] at hj
 by_cases hi : i < s.length
 ·rw [Mh hi]
  split
  ·rename_i e; subst e; exact h.symm
  ·rfl
 ·rw [List.set_eq_of_length_le (by omega)]
theorem AeG {s : List Bool} {i : Nat} : Afg s (s.set i true) := by
 refine ⟨by rw [List.length_set], fun j hj => ?_⟩
 by_cases hi : i < s.length
 ·rw [Mh hi]
  split
  ·rfl
  ·exact hj
 ·rw [List.set_eq_of_length_le (by omega)]; exact hj
theorem AeE {s : List Bool} {p x : Int} (hp : p.toNat < s.length) (h0 : 0 ≤ p) (hx : 0 ≤ x) : inS (s.set p.toNat true) x ↔ x = p ∨ inS s x := by
 unfold inS
 rw [Mh hp]
 split
 ·rename_i e
  exact ⟨fun _ => .inl (by omega), fun _ => rfl⟩
 ·rename_i e
  exact ⟨.inr, fun h => h.elim (fun h => absurd (by rw [h]) e) id⟩
theorem AgA {s : List Bool} {x : Int} (h : inS s x) : x.toNat < s.length := by
 unfold inS at h
 by_cases hl : x.toNat < s.length
 ·exact hl
 ·rw [List.getD_eq_getElem?_getD, List.getElem?_eq_none (by omega)] at h
  cases h
def Ags (g : List Aq) (s : List Bool) : Prop := ∀ c, inR g c → inS s c → ∀ p ∈ BF g c, inS s p
theorem Age {g : List Aq} {s : List Bool} (hv : Vl g) (hc : Ags g s) {a b : Int} (h : Rch g a b) (ha : inR g a) (hs : inS s a) : inS s b := by
 induction h with
 | refl => exact hs
 | step h _ ih => exact ih (hv _ ha _ h) (hc _ ha hs _ h)
def Aft (g : List Aq) (fr : List Int) (s : List Bool) : Prop := s.length = g.length ∧ ∀ x, inR g x → (inS s x ↔ ∃ f ∈ fr, Rch g f x)
def AgU (g : List Aq) (fr : List Int) (s : List Bool) : Prop := ∀ x, 0 ≤ x → inS s x → ∃ f ∈ fr, Rch g f x
def bsG (fr : List Int) (s : List Bool) : Prop := ∀ f ∈ fr, inS s f
theorem bsG.mono {fr : List Int} {s t : List Bool} (h : bsG fr s) (k : Afg s t) : bsG fr t := fun f hf => k.2 _ (h f hf)
structure Agj (g : List Aq) (fr : List Int) (S : List Bool) (c : Int) (s : List Bool) : Prop where
 sub : Afg S s
 snd : AgU g fr s
 done : ∀ c', inR g c' → c' < c → inS S c' → ∀ p ∈ BF g c', inS s p
 same : Ags g S → s = S
structure AgW (g : List Aq) (fr : List Int) (S : List Bool) (c p : Int) (s : List Bool) : Prop where
 rnd : Agj g fr S c s
 par : inS S c → ∀ q ∈ (BF g c).take p.toNat, inS s q
def AeQ (P : Pg) : Prop := ∀ x : List Aq × List Int, x.1.length ≤ 1000000 → x.2.length ≤ 1000000 → Vl x.1 → (∀ c, inR x.1 c → (BF x.1 c).length ≤ 1000000) → (∀ f ∈ x.2, inR x.1 f) → Fn P WQ Aei x fun (d : List Bool) _ => Aft x.1 x.2 d
theorem AgG (h : Has P AeA) : AeQ P := by
 rintro ⟨g, fr⟩ hn hm hv hpl hf
 dsimp only at hn hm hv hpl hf
 refine Afl h ?_
 unfold AeX
 dsimp only
 refine ⟨⟨Int.natCast_nonneg _, Int.le_refl _, by omega⟩, ?_⟩
 refine Ai.mid (fun s => s.length = g.length ∧ bsG fr s ∧ AgU g fr s) ?_ ?_
 ·refine Bl.of (fun q => (0 ≤ q.2 ∧ q.2 ≤ fr.length) ∧ q.1.length = g.length ∧ (∀ j, j < q.2.toNat → inS q.1 (fr.getD j 0)) ∧ ∀ x, 0 ≤ x → inS q.1 x → x ∈ fr) (fun q => (fr.length - q.2).toNat) ⟨⟨Int.le_refl _, Int.natCast_nonneg _⟩, by simp, fun j hj => absurd hj (by simp), fun x h0 hx => by
   have hl := AgA hx
   unfold inS at hx
   rw [Pv (by simpa using hl)] at hx
   cases hx⟩ ?_
  rintro ⟨s, i⟩ ⟨⟨i0, i1⟩, hsl, hb, hs⟩
  dsimp only at i0 i1 hsl hb hs ⊢
  refine ⟨fun hi => ?_, fun hi => ?_⟩
  ·have hi := of_decide_eq_true hi
   have hi2 : i.toNat < fr.length := by omega
   have hfi := hf _ (BK (d := 0) hi2)
   have hfl : (fr.getD i.toNat 0).toNat < s.length := by have := hfi.1; have := hfi.2; omega
   refine Ai.mid (fun t => t = s.set (fr.getD i.toNat 0).toNat true) ⟨⟨i0, hi⟩, hi2, ⟨hfi.1, by have := hfi.2; omega⟩, hfl, rfl⟩ ?_
   rintro t rfl
   rw [w64 (by omega) (by omega)]
   refine ⟨⟨⟨by omega, by omega⟩, by rw [List.length_set]; exact hsl, fun j hj => ?_, fun x h0 hx => ?_⟩, by omega⟩
   ·by_cases e : j = i.toNat
    ·subst e
     exact (AeE hfl hfi.1 hfi.1).2 (.inl rfl)
    ·exact AeG.2 _ (hb j (by omega))
   ·rcases (AeE hfl hfi.1 h0).1 hx with rfl | hx
    ·exact BK hi2
    ·exact hs x h0 hx
  ·have hi := of_decide_eq_false hi
   refine ⟨hsl, fun f hf => ?_, fun x h0 hx => ⟨x, hs x h0 hx, .refl x⟩⟩
   obtain ⟨j, hj⟩ := List.getElem?_of_mem hf
   obtain ⟨hl, he⟩ := List.getElem?_eq_some_iff.1 hj
   have := hb j (by omega)
   rwa [getD_eq hl, he] at this
 rintro s0 ⟨hl0, hb0, hs0⟩
 refine Ai.mid (fun s => Aft g fr s) ?_ fun _ h => h
 refine Bl.of (fun q => (0 ≤ q.2 ∧ q.2 ≤ g.length) ∧ q.1.length = g.length ∧ bsG fr q.1 ∧ AgU g fr q.1 ∧ (Ags g q.1 ∨ q.2.toNat ≤ q.1.count true)) (fun q => (g.length - q.2).toNat) ⟨⟨Int.le_refl _, Int.natCast_nonneg _⟩, hl0, hb0, hs0, .inr (Nat.zero_le _)⟩ ?_
 rintro ⟨S, r⟩ ⟨⟨r0, r1⟩, hSl, hSb, hSs, hSc⟩
 dsimp only at r0 r1 hSl hSb hSs hSc ⊢
 refine ⟨fun hr => ?_, fun hr => ?_⟩
 ·have hr := of_decide_eq_true hr
  refine Ai.mid (fun s => Agj g fr S g.length s) ?_ fun s hs => ?_
  ·refine Ai.mid (fun s => Agj g fr S g.length s) ?_ fun _ h => h
   refine Bl.of (fun q => (0 ≤ q.2 ∧ q.2 ≤ g.length) ∧ Agj g fr S q.2 q.1) (fun q => (g.length - q.2).toNat) ⟨⟨Int.le_refl _, Int.natCast_nonneg _⟩, ⟨Afg.refl S, hSs, fun c' h1 h2 => absurd h2 (by have := h1.1; omega), fun _ => rfl⟩⟩ ?_
   rintro ⟨s, c⟩ ⟨⟨c0, c1⟩, hs⟩
   dsimp only at c0 c1 hs ⊢
   refine ⟨fun hc => ?_, fun hc => ?_⟩
   ·have hc := of_decide_eq_true hc
    have hc2 : c.toNat < g.length := by omega
    have hcr : inR g c := ⟨c0, hc⟩
    have hpc := hpl c hcr
    refine Ai.mid (fun s => Agj g fr S (c + 1) s) ?_ fun s hs => ?_
    ·refine Ai.mid (fun s => Agj g fr S (c + 1) s) ?_ fun _ h => h
     show Bl _ _
     have hpe : (g.getD c.toNat ([], (0, []))).1 = BF g c := rfl
     refine Bl.of (fun q => (0 ≤ q.2 ∧ q.2 ≤ (BF g c).length) ∧ AgW g fr S c q.2 q.1) (fun q => ((BF g c).length - q.2).toNat) ⟨⟨Int.le_refl _, Int.natCast_nonneg _⟩, hs, fun _ q hq => by simp at hq⟩ ?_
     rintro ⟨s, p⟩ ⟨⟨p0, p1⟩, hs⟩
     dsimp only at p0 p1 hs ⊢
     have hsl : s.length = g.length := hs.rnd.sub.1.symm.trans hSl
     refine ⟨⟨c0, hc⟩, hc2, fun _ => ⟨c0, by omega⟩, fun _ => by omega, fun hb => ?_, fun hb => ?_⟩
     ·rw [Bool.cond_eq_ite] at hb
      split at hb
      ·rename_i h1
       have h1 := of_decide_eq_true h1
       have h1 : p < (BF g c).length := h1
       have h2 : inS s c := hb
       have hp2 : p.toNat < (BF g c).length := by omega
       have hpm : (BF g c).getD p.toNat 0 ∈ BF g c := BK hp2
       have hpr := hv c hcr _ hpm
       have hpl2 : ((BF g c).getD p.toNat 0).toNat < s.length := by have := hpr.1; have := hpr.2; omega
       have hlt : (BF g c).getD p.toNat 0 < ((s.length : Nat) : Int) := by have := hpr.2; omega
       refine Ai.mid (fun t => t = s.set ((BF g c).getD p.toNat 0).toNat true) ⟨⟨c0, hc⟩, hc2, ⟨p0, h1⟩, hp2, ⟨hpr.1, hlt⟩, hpl2, rfl⟩ ?_
       rintro t rfl
       rw [w64 (by omega) (by omega)]
       refine ⟨⟨⟨by omega, by omega⟩, ⟨hs.rnd.sub.trans AeG, fun x h0 hx => ?_, fun c' h3 h4 h5 q hq => AeG.2 _ (hs.rnd.done c' h3 h4 h5 q hq), fun hcl => ?_⟩, fun hSc q hq => ?_⟩, by omega⟩
       ·rcases (AeE hpl2 hpr.1 h0).1 hx with rfl | hx
        ·obtain ⟨f, hf, hfc⟩ := hs.rnd.snd c c0 h2
         exact ⟨f, hf, hfc.snoc hpm⟩
        ·exact hs.rnd.snd x h0 hx
       ·have he := hs.rnd.same hcl
        subst he
        exact AgF (hcl c hcr h2 _ hpm)
       ·rw [show (p + 1).toNat = p.toNat + 1 by omega, List.take_add_one, List.getElem?_eq_getElem hp2] at hq
        rcases List.mem_append.1 hq with hq | hq
        ·exact AeG.2 _ (hs.par hSc q hq)
        ·have : q = (BF g c).getD p.toNat 0 := by rw [getD_eq hp2]; simpa using hq
         rw [this]
         exact (AeE hpl2 hpr.1 hpr.1).2 (.inl rfl)
      ·cases hb
     ·refine ⟨hs.rnd.sub, hs.rnd.snd, fun c' h1 h2 h3 q hq => ?_, hs.rnd.same⟩
      by_cases e : c' = c
      ·subst e
       have hin : inS s c' := hs.rnd.sub.2 _ h3
       have hpe : ¬ p < (BF g c').length := fun h4 => by
        have h5 : (decide (p < (((BF g c').length : Nat) : Int))) = true := decide_eq_true h4
        have hb : (cond (decide (p < (((BF g c').length : Nat) : Int))) (s.getD c'.toNat false) false) = false := hb
        rw [h5, cond_true] at hb
        unfold inS at hin
        rw [hin] at hb
        cases hb
       have := hs.par h3
       rw [List.take_of_length_le (by omega)] at this
       exact this q hq
      ·exact hs.rnd.done c' h1 (by omega) h3 q hq
    ·rw [w64 (by omega) (by omega)]
     exact ⟨⟨⟨by omega, by omega⟩, hs⟩, by omega⟩
   ·have hc := of_decide_eq_false hc
    rw [show ((g.length : Nat) : Int) = c by omega]
    exact hs
  ·rw [w64 (by omega) (by omega)]
   refine ⟨⟨⟨by omega, by omega⟩, hs.sub.1.symm.trans hSl, hSb.mono hs.sub, hs.snd, ?_⟩, by omega⟩
   have hclo : s = S → Ags g s := fun e c hc hin p hp => hs.done c hc hc.2 (by rw [← e]; exact hin) p hp
   obtain ⟨h1, h2⟩ := AfY hs.sub
   rcases hSc with h | h
   ·exact .inl (hclo (hs.same h))
   ·by_cases e : S.count true = s.count true
    ·exact .inl (hclo (h2 e).symm)
    ·exact .inr (by omega)
 ·have hr := of_decide_eq_false hr
  have hcl : Ags g S := by
   rcases hSc with h | h
   ·exact h
   ·intro c hc hin p hp
    have hpr := hv c hc p hp
    exact AfK (by omega) _ (by have := hpr.1; have := hpr.2; omega)
  refine ⟨hSl, fun x hx => ⟨fun h => hSs x hx.1 h, ?_⟩⟩
  rintro ⟨f, hfm, hr⟩
  exact Age hv hcl hr (hf f hfm) (hSb f hfm)
end Go.VS
