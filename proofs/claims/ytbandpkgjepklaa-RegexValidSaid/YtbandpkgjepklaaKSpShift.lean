/- A pattern between parentheses is read as the pattern. -/
import Derived.Test.YtbandpkgjepklaaKSpPatt
import Derived.Test.YtbandpkgjepklaaKSpPrs
set_option linter.unusedVariables false
set_option linter.unusedSimpArgs false
set_option linter.unusedSectionVars false
namespace Go.VS
def AkT (s : Bs) : Bs := 40 :: (s ++ [41])
theorem AkW (s : Bs) : (AkT s).length = s.length + 2 := by simp [AkT]
theorem AkU (s : Bs) {i : Nat} (h : i < s.length) : byt (AkT s) (i + 1) = byt s i := by
 unfold byt AkT
 rw [List.getD_cons_succ, Dx h]
theorem Ak2 (s : Bs) : byt (AkT s) (s.length + 1) = 41 := by
 unfold byt AkT
 rw [List.getD_cons_succ, HI]
 rfl
theorem AkX (s : Bs) {i : Nat} {c : Int} (h : i ≤ s.length) (hc : c ≠ 41) : isc (AkT s) (i + 1) c = isc s i c := by
 rw [Bool.eq_iff_iff, Bi, Bi, AkW]
 rcases Nat.lt_or_ge i s.length with h1 | h1
 ·rw [AkU s h1]
  exact ⟨fun h => ⟨h1, h.2⟩, fun h => ⟨by omega, h.2⟩⟩
 ·have : i = s.length := by omega
  subst this
  rw [Ak2]
  exact ⟨fun h => absurd h.2.symm hc, fun h => by omega⟩
theorem Alp (s : Bs) {i : Nat} {c : Int} (h : isc s i c = true) : isc (AkT s) (i + 1) c = true := by
 have := Bi.1 h
 rw [Bi, AkW, AkU s this.1]
 exact ⟨by omega, this.2⟩
theorem Alr (s : Bs) {i : Nat} (h : i ≤ s.length) : isD (AkT s) (i + 1) = isD s i := by
 unfold isD
 rw [AkW]
 rcases Nat.lt_or_ge i s.length with h1 | h1
 ·rw [AkU s h1, decide_eq_true h1, decide_eq_true (show i + 1 < s.length + 2 by omega)]
 ·have : i = s.length := by omega
  subst this
  rw [Ak2, decide_eq_false (Nat.lt_irrefl _)]
  simp
theorem Alc (s : Bs) {a0 : Nat} : ∀ {f f' : Nat} {n : Int} {i : Nat} {m : Int} {j : Nat}, OP s a0 f n i = some (m, j) → f ≤ f' → a0 ≤ i → i ≤ s.length → OP (AkT s) (a0 + 1) f' n (i + 1) = some (m, j + 1)
 | 0, _, _, _, _, _, h, _, _, _ => by cases h
 | f + 1, 0, _, _, _, _, _, h, _, _ => by omega
 | f + 1, f' + 1, n, i, m, j, h, hf, h0, hi => by
  rw [OP] at h ⊢
  rw [Alr s hi]
  by_cases hd : isD s i = true
  ·rw [if_pos hd] at h ⊢
   have hlt : i < s.length := by simp only [isD, Bool.and_eq_true, decide_eq_true_eq] at hd; exact hd.1
   rw [AkU s hlt, AkU s (show a0 < s.length by omega)]
   by_cases h1 : i > a0 ∧ byt s a0 = 48
   ·rw [if_pos h1] at h; cases h
   rw [if_neg h1] at h
   rw [if_neg (fun x => h1 ⟨by omega, x.2⟩)]
   split at h
   ·cases h
   ·rename_i h2
    rw [if_neg h2]
    exact Alc s h (by omega) (by omega) hlt
  ·rw [if_neg hd] at h ⊢
   by_cases h1 : i = a0
   ·rw [if_pos h1] at h; cases h
   ·rw [if_neg h1] at h
    rw [if_neg (by omega)]
    cases h
    rfl
theorem Alb (s : Bs) {a : Nat} {m : Int} {j : Nat} (h : EW s a = some (m, j)) : EW (AkT s) (a + 1) = some (m, j + 1) := by
 unfold EW at h ⊢
 rw [AkW]
 split at h
 ·rename_i ha
  rw [if_pos (by omega)]
  exact Alc s h (by omega) (Nat.le_refl _) ha
 ·cases h
theorem Alg (s : Bs) {a : Nat} {lo hi : Int} {e : Nat} (h : B4 s a = some (lo, (hi, e))) : B4 (AkT s) (a + 1) = some (lo, (hi, e + 1)) := by
 unfold B4 at h ⊢
 cases h1 : EW s (a + 1) with
 | none => rw [h1] at h; cases h
 | some x =>
  obtain ⟨lo', nx⟩ := x
  have k1 := Lp h1
  rw [h1] at h
  rw [Alb s h1]
  dsimp only at h ⊢
  rw [AkX s (by omega) (by decide), AkW]
  by_cases hc : isc s nx 44 = true
  ·have hlt := (Bi.1 hc).1
   rw [if_pos hc] at h ⊢
   by_cases h2 : nx + 1 < s.length ∧ byt s (nx + 1) ≠ 125
   ·rw [if_pos h2] at h
    rw [if_pos ⟨by omega, by rw [AkU s h2.1]; exact h2.2⟩]
    cases h3 : EW s (nx + 1) with
    | none => rw [h3] at h; cases h
    | some y =>
     obtain ⟨hi', e'⟩ := y
     have k3 := Lp h3
     rw [h3] at h
     rw [Alb s h3]
     dsimp only at h ⊢
     rw [AkX s (by omega) (by decide)]
     split at h
     ·rename_i hq; rw [if_pos hq]; cases h; rfl
     ·cases h
   ·rw [if_neg h2] at h
    dsimp only at h
    have hne : nx + 1 < s.length := by
     split at h
     ·rename_i hq; exact (Bi.1 hq.1).1
     ·cases h
    rw [if_neg (fun x => h2 ⟨hne, by rw [AkU s hne] at x; exact x.2⟩)]
    dsimp only
    rw [AkX s (by omega) (by decide)]
    split at h
    ·rename_i hq; rw [if_pos hq]; cases h; rfl
    ·cases h
  ·rw [if_neg hc] at h ⊢
   dsimp only at h ⊢
   rw [AkX s (by omega) (by decide)]
   split at h
   ·rename_i hq; rw [if_pos hq]; cases h; rfl
   ·cases h
theorem Alm (s : Bs) {b : Nat} (hb : b < s.length) {lo hi : Int} {e : Nat} (h : D5 s b = some (some (lo, (hi, e)))) : D5 (AkT s) (b + 1) = some (some (lo, (hi, e + 1))) := by
 unfold D5 at h ⊢
 rw [AkU s hb]
 split at h
 ·rename_i h1; rw [if_pos h1]; cases h; rfl
 rename_i h1
 rw [if_neg h1]
 split at h
 ·rename_i h1; rw [if_pos h1]; cases h; rfl
 rename_i h1
 rw [if_neg h1]
 split at h
 ·rename_i h1; rw [if_pos h1]; cases h; rfl
 rename_i h1
 rw [if_neg h1]
 split at h
 ·rename_i h1
  simp only [Option.some.injEq] at h
  rw [if_pos h1, Alg s h]
 ·cases h
theorem Alq (s : Bs) {b : Nat} (hb : b < s.length) (h : D5 s b = none) : D5 (AkT s) (b + 1) = none := by
 unfold D5 at h ⊢
 rw [AkU s hb]
 split at h
 ·cases h
 rename_i h1
 rw [if_neg h1]
 split at h
 ·cases h
 rename_i h1
 rw [if_neg h1]
 split at h
 ·cases h
 rename_i h1
 rw [if_neg h1]
 split at h
 ·cases h
 ·rename_i h1
  rw [if_neg h1]
theorem Alu (s : Bs) : D5 (AkT s) (s.length + 1) = none := by
 unfold D5
 rw [Ak2]
 rfl
theorem Ak8 (s : Bs) : ∀ {f f' i : Nat}, Ct s f i + 1 < s.length → s.length ≤ i + f → f ≤ f' → Ct (AkT s) f' (i + 1) = Ct s f i + 1
 | 0, f', i, h, hf, _ => by
  have h : i + 1 < s.length := h
  omega
 | f + 1, 0, i, h, hf, hff => by omega
 | f + 1, f' + 1, i, h, hf, hff => by
  rw [Ct] at h ⊢
  conv => rhs; rw [Ct]
  by_cases hc : i + 1 < s.length ∧ ¬ (byt s i = 58 ∧ byt s (i + 1) = 93)
  ·rw [if_pos hc] at h ⊢
   rw [if_pos ⟨by rw [AkW]; omega, by rw [AkU s (by omega), AkU s hc.1]; exact hc.2⟩]
   exact Ak8 s h (by omega) (by omega)
  ·rw [if_neg hc] at h ⊢
   rw [if_neg]
   rintro ⟨_, x⟩
   rw [AkU s (by omega), AkU s h] at x
   exact hc ⟨h, x⟩
theorem Alo (s : Bs) {n m : Nat} (h : n ≤ s.length) : ((AkT s).take (n + 1)).drop (m + 1) = (s.take n).drop m := by
 unfold AkT
 rw [List.take_succ_cons, List.drop_succ_cons, List.take_append_of_le_length h]
theorem Ak3 {s : Bs} : ∀ {f : Nat} {first : Bool} {set : Bb} {a : Nat} {set' : Bb} {b : Nat}, Dh s f first set a = some (set', b) → isc s b 93 = true
 | 0, _, _, _, _, _, h => by cases h
 | f + 1, first, set, a, set', b, h => by
  rw [Dh] at h
  split at h
  ·unfold G5 at h
   split at h
   ·cases h
   split at h
   ·split at h
    ·cases h
    ·exact Ak3 h
   split at h
   ·split at h
    ·cases h
    ·exact Ak3 h
   ·exact Ak3 h
  ·rename_i hc
   cases h
   cases he : isc s a 93 with
   | true => rfl
   | false => exact absurd (.inr he) hc
theorem Ak0 (s : Bs) : ∀ {f f' : Nat} {first : Bool} {set : Bb} {a : Nat} {set' : Bb} {b : Nat}, Dh s f first set a = some (set', b) → f ≤ f' → a ≤ s.length → Dh (AkT s) f' first set (a + 1) = some (set', b + 1)
 | 0, _, _, _, _, _, _, h, _, _ => by cases h
 | f + 1, 0, _, _, _, _, _, h, hf, _ => by omega
 | f + 1, f' + 1, first, set, a, set', b, h, hf, ha => by
  rw [Dh] at h ⊢
  rw [AkX s ha (by decide)]
  split at h
  ·rename_i hc
   rw [if_pos hc]
   unfold G5 at h ⊢
   rw [AkW]
   split at h
   ·cases h
   rename_i h1
   rw [if_neg (by omega), AkX s ha (by decide), AkX s (by omega) (by decide)]
   split at h
   ·rename_i h2
    rw [if_pos h2]
    split at h
    ·cases h
    rename_i h3
    have hcl : CH s (a + 2) + 1 < s.length := by
     rcases Nat.lt_or_ge (CH s (a + 2) + 1) s.length with x | x
     ·exact x
     ·exact absurd (.inr x) h3
    have e : CH (AkT s) (a + 1 + 2) = CH s (a + 2) + 1 := by
     unfold CH
     rw [AkW]
     exact Ak8 s hcl (by omega) (by omega)
    rw [e, show a + 1 + 2 = a + 2 + 1 by omega, Alo s (by omega)]
    rw [if_neg (fun x => h3 (x.imp id (fun y => by omega)))]
    exact Ak0 s h (by omega) (by omega)
   ·rename_i h2
    rw [if_neg h2]
    by_cases h4 : a + 2 < s.length
    ·rw [show a + 1 + 2 = a + 2 + 1 by omega, AkU s (show a < s.length by omega), AkU s (show a + 1 < s.length by omega), AkU s h4]
     by_cases h5 : byt s (a + 1) = 45 ∧ byt s (a + 2) ≠ 93
     ·rw [if_pos ⟨h4, h5⟩] at h
      rw [if_pos ⟨by omega, h5⟩]
      split at h
      ·cases h
      ·rename_i h6
       rw [if_neg h6]
       exact Ak0 s h (by omega) (by omega)
     ·rw [if_neg (fun x => h5 x.2)] at h
      rw [if_neg (fun x => h5 x.2)]
      exact Ak0 s h (by omega) (by omega)
    ·rw [if_neg (fun x => h4 x.1)] at h
     have hle := Lf h (by omega)
     have hen := Bi.1 (Ak3 h)
     have hb : b = a + 1 := by omega
     subst hb
     rw [AkU s (show a < s.length by omega)]
     rw [if_neg]
     ·exact Ak0 s h (by omega) (by omega)
     ·rintro ⟨_, x, _⟩
      rw [AkU s hen.1] at x
      omega
  ·rename_i hc
   rw [if_neg hc]
   cases h
   rfl
theorem Alh (s : Bs) {a : Nat} {w : Bb} {b : Nat} (h : HE s a = some (w, b)) (ha : a ≤ s.length) : HE (AkT s) (a + 1) = some (w, b + 1) := by
 unfold HE at h ⊢
 rw [AkX s ha (by decide), AkW]
 have key : ∀ a1 x, a1 ≤ s.length → Dh s (s.length + 2) true z4 a1 = some x → Dh (AkT s) (s.length + 2 + 2) true z4 (a1 + 1) = some (x.1, x.2 + 1) := fun a1 x h1 h2 => Ak0 s (set' := x.1) (b := x.2) h2 (by omega) h1
 have e : (if isc s a 94 = true then a + 1 + 1 else a + 1) = (if isc s a 94 = true then a + 1 else a) + 1 := by split <;> rfl
 rw [e]
 have hle : (if isc s a 94 = true then a + 1 else a) ≤ s.length := by
  split
  ·rename_i hc; exact (Bi.1 hc).1
  ·exact ha
 cases h1 : Dh s (s.length + 2) true z4 (if isc s a 94 = true then a + 1 else a) with
 | none => rw [h1] at h; cases h
 | some x =>
  rw [h1] at h
  rw [key _ x hle h1]
  dsimp only at h ⊢
  cases h
  rfl
section
variable {rec rec' : Int → Nat → List Node → Eh} {s : Bs} {d d' : Int} {I : Nat → Prop}
def Alf (rec rec' : Int → Nat → List Node → Eh) (s : Bs) (d d' : Int) (I : Nat → Prop) : Prop := ∀ (a : Nat) (l : List Node) (k : Int) (b : Nat) (l' : List Node), I a → a < s.length → byt s a ≠ 124 → byt s a ≠ 41 → CI rec s d a l = .ok (k, (b, l')) → I b ∧ b ≤ s.length ∧ CI rec' (AkT s) d' (a + 1) l = .ok (k, (b + 1, l'))
theorem Ak5 (hp : Alf rec rec' s d d' I) : ∀ {f f' : Nat} {kids : List Int} {a : Nat} {l : List Node} {ks : List Int} {b : Nat} {l' : List Node}, I a → a ≤ s.length → f ≤ f' → ET rec s d f kids a l = .ok (ks, (b, l')) → I b ∧ b ≤ s.length ∧ ET rec' (AkT s) d' f' kids (a + 1) l = .ok (ks, (b + 1, l'))
 | 0, _, _, _, _, _, _, _, _, _, _, h => by cases h
 | f + 1, 0, _, _, _, _, _, _, _, _, hf, h => by omega
 | f + 1, f' + 1, kids, a, l, ks, b, l', hI, ha, hf, h => by
  rw [ET] at h ⊢
  split at h
  ·rename_i hc
   rw [if_pos ⟨by rw [AkW]; omega, by rw [AkU s hc.1]; exact hc.2⟩]
   cases h1 : CI rec s d a l with
   | error e => rw [h1] at h; cases h
   | ok x =>
    obtain ⟨k, b1, l1⟩ := x
    rw [h1] at h
    obtain ⟨i1, i2, i3⟩ := hp a l k b1 l1 hI hc.1 hc.2.1 hc.2.2 h1
    rw [i3]
    dsimp only at h ⊢
    exact Ak5 hp i1 i2 (by omega) h
  ·rename_i hc
   cases h
   refine ⟨hI, ha, ?_⟩
   rw [if_neg]
   rintro ⟨_, x⟩
   rcases Nat.lt_or_ge a s.length with h1 | h1
   ·rw [AkU s h1] at x
    exact hc ⟨h1, x⟩
   ·have : a = s.length := by omega
    subst this
    rw [Ak2] at x
    exact x.2 rfl
theorem Ak9 (kind : Int) (kids : List Int) (b : Nat) (l : List Node) : C5 kind kids (b + 1) l = ((C5 kind kids b l).1, ((C5 kind kids b l).2.1 + 1, (C5 kind kids b l).2.2)) := by
 unfold C5
 split
 ·rfl
 ·split <;> rfl
theorem Ala (hp : Alf rec rec' s d d' I) {a : Nat} {l : List Node} {k : Int} {b : Nat} {l' : List Node} (hI : I a) (ha : a ≤ s.length) (h : Pf rec s d a l = .ok (k, (b, l'))) : I b ∧ b ≤ s.length ∧ Pf rec' (AkT s) d' (a + 1) l = .ok (k, (b + 1, l')) := by
 unfold Pf at h ⊢
 cases h1 : ET rec s d (s.length + 1) [] a l with
 | error e => rw [h1] at h; cases h
 | ok x =>
  obtain ⟨ks, b1, l1⟩ := x
  rw [h1] at h
  obtain ⟨i1, i2, i3⟩ := Ak5 hp (f' := (AkT s).length + 1) hI ha (by rw [AkW]; omega) h1
  rw [i3]
  dsimp only at h ⊢
  have hg := GI 4 ks b1 l1
  rw [Ak9]
  simp only [Except.ok.injEq] at h
  rw [h] at hg ⊢
  dsimp only at hg ⊢
  subst hg
  exact ⟨i1, i2, rfl⟩
theorem Ak6 (hp : Alf rec rec' s d d' I) (hbar : ∀ a, I a → isc s a 124 = true → I (a + 1)) : ∀ {f f' : Nat} {kids : List Int} {a : Nat} {l : List Node} {ks : List Int} {b : Nat} {l' : List Node}, I a → a ≤ s.length → f ≤ f' → Db rec s d f kids a l = .ok (ks, (b, l')) → I b ∧ b ≤ s.length ∧ Db rec' (AkT s) d' f' kids (a + 1) l = .ok (ks, (b + 1, l'))
 | 0, f', kids, a, l, ks, b, l', hI, ha, hf, h => by
  rw [Db] at h
  split at h
  ·cases h
  ·rename_i hc
   cases h
   refine ⟨hI, ha, ?_⟩
   cases f' with
   | zero => rw [Db, AkX s ha (by decide), if_neg hc]
   | succ f' => rw [Db, AkX s ha (by decide), if_neg hc]
 | f + 1, 0, _, _, _, _, _, _, _, _, hf, h => by omega
 | f + 1, f' + 1, kids, a, l, ks, b, l', hI, ha, hf, h => by
  rw [Db] at h ⊢
  rw [AkX s ha (by decide)]
  split at h
  ·rename_i hc
   have hlt := (Bi.1 hc).1
   rw [if_pos hc]
   cases h1 : Pf rec s d (a + 1) l with
   | error e => rw [h1] at h; cases h
   | ok x =>
    obtain ⟨k, b1, l1⟩ := x
    rw [h1] at h
    obtain ⟨i1, i2, i3⟩ := Ala hp (hbar a hI hc) hlt h1
    rw [i3]
    dsimp only at h ⊢
    exact Ak6 hp hbar i1 i2 (by omega) h
  ·rename_i hc
   rw [if_neg hc]
   cases h
   exact ⟨hI, ha, rfl⟩
theorem Ald (hp : Alf rec rec' s d d' I) (hbar : ∀ a, I a → isc s a 124 = true → I (a + 1)) {a : Nat} {l : List Node} {k : Int} {b : Nat} {l' : List Node} (hI : I a) (ha : a ≤ s.length) (h : Rt rec s d a l = .ok (k, (b, l'))) : I b ∧ b ≤ s.length ∧ Rt rec' (AkT s) d' (a + 1) l = .ok (k, (b + 1, l')) := by
 unfold Rt at h ⊢
 cases h1 : Pf rec s d a l with
 | error e => rw [h1] at h; cases h
 | ok x =>
  obtain ⟨k1, b1, l1⟩ := x
  rw [h1] at h
  obtain ⟨i1, i2, i3⟩ := Ala hp hI ha h1
  rw [i3]
  dsimp only at h ⊢
  cases h2 : Db rec s d (s.length + 1) [k1] b1 l1 with
  | error e => rw [h2] at h; cases h
  | ok y =>
   obtain ⟨ks, b2, l2⟩ := y
   rw [h2] at h
   obtain ⟨j1, j2, j3⟩ := Ak6 hp hbar (f' := (AkT s).length + 1) i1 i2 (by rw [AkW]; omega) h2
   rw [j3]
   dsimp only at h ⊢
   have hg := GI 5 ks b2 l2
   rw [Ak9]
   simp only [Except.ok.injEq] at h
   rw [h] at hg ⊢
   dsimp only at hg ⊢
   subst hg
   exact ⟨j1, j2, rfl⟩
theorem Aln (hrec : byt s = byt s → ∀ a l k b l', a ≤ s.length → 1 ≤ a → byt s (a - 1) = 40 → rec (d + 1) a l = .ok (k, (b, l')) → b ≤ s.length ∧ rec' (d' + 1) (a + 1) l = .ok (k, (b + 1, l'))) (hd : d' < 50) {a : Nat} {l : List Node} {k : Int} {b : Nat} {l' : List Node} (ha : a < s.length) (h : El rec s d a l = .ok (k, (b, l'))) : b ≤ s.length ∧ El rec' (AkT s) d' (a + 1) l = .ok (k, (b + 1, l')) := by
 unfold El at h ⊢
 dsimp only at h ⊢
 rw [AkU s ha]
 split at h
 ·rename_i hc
  split at h
  ·cases h
  rw [if_pos hc, if_neg (by omega)]
  cases h1 : rec (d + 1) (a + 1) l with
  | error e => rw [h1] at h; cases h
  | ok x =>
   obtain ⟨k1, b1, l1⟩ := x
   rw [h1] at h
   obtain ⟨i1, i2⟩ := hrec rfl (a + 1) l k1 b1 l1 ha (by omega) hc h1
   rw [i2]
   dsimp only at h ⊢
   split at h
   ·rename_i hb
    rw [if_pos (Alp s hb)]
    cases h
    exact ⟨(Bi.1 hb).1, rfl⟩
   ·cases h
 rename_i h1
 rw [if_neg h1]
 split at h
 ·rename_i h2
  rw [if_pos h2]
  cases h3 : HE s (a + 1) with
  | none => rw [h3] at h; cases h
  | some x =>
   obtain ⟨w, b1⟩ := x
   rw [h3] at h
   have := WD h3 ha
   rw [Alh s h3 ha]
   dsimp only at h ⊢
   cases h
   exact ⟨by omega, rfl⟩
 rename_i h1
 rw [if_neg h1]
 split at h
 ·rename_i h2; rw [if_pos h2]; cases h; exact ⟨ha, rfl⟩
 rename_i h1
 rw [if_neg h1]
 split at h
 ·rename_i h2; rw [if_pos h2]; cases h; exact ⟨ha, rfl⟩
 rename_i h1
 rw [if_neg h1]
 split at h
 ·rename_i h2; rw [if_pos h2]; cases h; exact ⟨ha, rfl⟩
 rename_i h1
 rw [if_neg h1]
 split at h
 ·cases h
 rename_i h1
 rw [if_neg h1]
 split at h
 ·rename_i h2
  rw [if_pos h2, AkW]
  split at h
  ·cases h
  ·rename_i h3
   rw [if_neg (by omega), AkU s (by omega)]
   cases h
   exact ⟨by omega, rfl⟩
 ·rename_i h2
  rw [if_neg h2]
  cases h
  exact ⟨ha, rfl⟩
theorem Alk (hrec : byt s = byt s → ∀ a l k b l', a ≤ s.length → 1 ≤ a → byt s (a - 1) = 40 → rec (d + 1) a l = .ok (k, (b, l')) → b ≤ s.length ∧ rec' (d' + 1) (a + 1) l = .ok (k, (b + 1, l'))) (hd : d' < 50) {a : Nat} {l : List Node} {k : Int} {b : Nat} {l' : List Node} (ha : a < s.length) (h : CI rec s d a l = .ok (k, (b, l'))) : b ≤ s.length ∧ CI rec' (AkT s) d' (a + 1) l = .ok (k, (b + 1, l')) := by
 unfold CI at h ⊢
 cases h1 : El rec s d a l with
 | error e => rw [h1] at h; cases h
 | ok x =>
  obtain ⟨k1, b1, l1⟩ := x
  rw [h1] at h
  obtain ⟨i1, i2⟩ := Aln hrec hd ha h1
  rw [i2]
  dsimp only at h ⊢
  rw [AkW, if_neg (by omega)]
  split at h
  ·rename_i hb
   have : b1 = s.length := by omega
   subst this
   rw [Alu]
   cases h
   exact ⟨i1, rfl⟩
  rename_i hb
  cases hq : D5 s b1 with
  | none =>
   rw [hq] at h
   rw [Alq s (by omega) hq]
   cases h
   exact ⟨i1, rfl⟩
  | some o =>
   cases o with
   | none => rw [hq] at h; cases h
   | some y =>
    obtain ⟨lo, hi, e⟩ := y
    rw [hq] at h
    have := Xi hq (by omega)
    rw [Alm s (by omega) hq]
    dsimp only at h ⊢
    rw [AkU s ha]
    split at h
    ·cases h
    ·rename_i h3
     rw [if_neg h3]
     cases h
     exact ⟨by omega, rfl⟩
end
theorem Ali {s : Bs} {n m : Nat} {d d' : Int} {p q : Nat} (hq : q < s.length) (hq41 : byt s q = 41) (hin : ∀ i, i < q → p < i → (byt s i = 97 ∨ byt s i = 98 ∨ byt s i = 124)) (hpq : p < q) {l : List Node} {k : Int} {b : Nat} {l' : List Node} (h : CP s n d (p + 1) l = .ok (k, (b, l'))) : b ≤ s.length ∧ CP (AkT s) (m + 1) d' (p + 1 + 1) l = .ok (k, (b + 1, l')) := by
 cases n with
 | zero => cases h
 | succ n =>
  have h : Rt (CP s n) s d (p + 1) l = .ok (k, (b, l')) := h
  refine (Ald (rec' := CP (AkT s) m) (d' := d') (I := fun a => p < a ∧ a ≤ q) ?_ ?_ (by omega) (by omega) h).2
  ·rintro a l k b l' ⟨a0, a1⟩ hlt h124 h41 hp
   have haq : a < q := by
    rcases Nat.lt_or_ge a q with h | h
    ·exact h
    ·have : a = q := by omega
     subst this
     exact absurd hq41 h41
   have hb := hin a haq a0
   have hnx : byt s (a + 1) = 97 ∨ byt s (a + 1) = 98 ∨ byt s (a + 1) = 124 ∨ byt s (a + 1) = 41 := by
    rcases Nat.lt_or_ge (a + 1) q with h | h
    ·have := hin (a + 1) h (by omega); omega
    ·have : a + 1 = q := by omega
     rw [this]; omega
   have hat : ∀ (r : Int → Nat → List Node → Eh) (s : Bs) (d : Int) (a : Nat), (byt s a = 97 ∨ byt s a = 98) → El r s d a l = .ok ((l.length : Int), (a + 1, l ++ [setNode (EG z4 (byt s a))])) := fun r s d a hb => by
    unfold El
    dsimp only
    rw [if_neg (by omega), if_neg (by omega), if_neg (by omega), if_neg (by omega), if_neg (by omega), if_neg (by omega), if_neg (by omega)]
   have hqn : ∀ (s : Bs) (a : Nat), (byt s a = 97 ∨ byt s a = 98 ∨ byt s a = 124 ∨ byt s a = 41) → D5 s a = none := fun s a hnx => by
    unfold D5
    rw [if_neg (by omega), if_neg (by omega), if_neg (by omega), if_neg (by omega)]
   unfold CI at hp ⊢
   rw [hat _ s d a (by omega)] at hp
   rw [hat _ (AkT s) d' (a + 1) (by rw [AkU s hlt]; omega)]
   dsimp only at hp ⊢
   rw [if_neg (by omega), hqn s (a + 1) hnx] at hp
   rw [AkW, if_neg (by omega), hqn (AkT s) (a + 1 + 1) (by rw [AkU s (by omega)]; exact hnx), AkU s hlt]
   cases hp
   exact ⟨⟨by omega, by omega⟩, by omega, rfl⟩
  ·rintro a ⟨a0, a1⟩ hb
   have := (Bi.1 hb).2
   refine ⟨by omega, ?_⟩
   rcases Nat.lt_or_ge a q with h | h
   ·omega
   ·have : a = q := by omega
    subst this
    omega
theorem Alj {s : Bs} (hm : Mild s) (hs : s.length + 2 ≤ 256) {l : List Node} (h : D4 s = (l, 0)) : D4 (AkT s) = (l, 0) := by
 unfold D4 at h ⊢
 rw [AkW]
 rw [if_neg (by omega)] at h ⊢
 have hg := C7 s 51 0 0 [] (Nat.zero_le _)
 cases h1 : CP s 51 0 0 [] with
 | error e =>
  rw [h1] at h
  have h := congrArg Prod.snd h
  have h : e = 0 := h
  subst h
  have e1 : Fj s 51 0 0 [] = VB (CP s 51 0 0 []) s := YD (fun a l ha => Mn s 50 (0 + 1) (by omega) a l ha) (C7 s 50) (Nat.zero_le _) []
  rw [e1, h1] at hg
  exact absurd rfl hg
 | ok x =>
  obtain ⟨k, b, l1⟩ := x
  rw [h1] at h
  dsimp only at h
  split at h
  ·cases h
  rename_i hb
  cases h
  have h1 : Rt (CP s 50) s 0 0 [] = .ok (k, (b, l)) := h1
  obtain ⟨-, j2, j3⟩ := Ald (rec' := CP (AkT s) 49) (d' := 1) (I := fun _ => True) (fun a l k b l' _ ha h124 h41 hp => ⟨trivial, Alk (fun _ a l k b l' h1 h2 h3 h4 => by
   obtain ⟨q, _, q1, q2, q3, q4⟩ := hm.grp (a - 1) (by omega) h3
   have ea : a = a - 1 + 1 := by omega
   rw [ea] at h4 ⊢
   exact Ali (m := 48) q2 q3 q4 q1 h4) (by decide) ha hp⟩) (fun _ _ _ => trivial) trivial (Nat.zero_le _) h1
  have hbe : b = s.length := by omega
  subst hbe
  have j3 : CP (AkT s) 50 (0 + 1) (0 + 1) [] = .ok (k, (s.length + 1, l)) := j3
  have b0 : byt (AkT s) 0 = 40 := rfl
  have hat : El (CP (AkT s) 50) (AkT s) 0 0 [] = .ok (k, (s.length + 2, l)) := by
   unfold El
   dsimp only
   rw [b0, if_pos rfl, if_neg (by decide), j3]
   dsimp only
   rw [if_pos (Bi.2 ⟨by rw [AkW]; omega, Ak2 s⟩)]
  have hpc : CI (CP (AkT s) 50) (AkT s) 0 0 [] = .ok (k, (s.length + 2, l)) := by
   unfold CI
   rw [hat]
   dsimp only
   rw [if_pos (by rw [AkW]; omega)]
  have hal : Pf (CP (AkT s) 50) (AkT s) 0 0 [] = .ok (k, (s.length + 2, l)) := by
   unfold Pf
   rw [AkW, ET, if_pos ⟨by rw [AkW]; omega, by rw [b0]; decide, by rw [b0]; decide⟩, hpc]
   dsimp only
   rw [ET, if_neg (fun x => by rw [AkW] at x; omega)]
   rfl
  have hpt : CP (AkT s) 51 0 0 [] = .ok (k, (s.length + 2, l)) := by
   show Rt (CP (AkT s) 50) (AkT s) 0 0 [] = _
   unfold Rt
   rw [hal]
   dsimp only
   rw [AkW, Db, if_neg (fun x => by have := (Bi.1 x).1; rw [AkW] at this; omega)]
   rfl
  rw [hpt]
  dsimp only
  rw [if_neg (by omega)]
end Go.VS
