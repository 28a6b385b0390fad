/- The reader of patterns as a plain function. -/
import Derived.Test.YtbandpkgjepklaaKSpClass
import Derived.Test.YtbandpkgjepklaaKSpNode
set_option linter.unusedVariables false
set_option linter.unusedSimpArgs false
set_option linter.unusedSectionVars false
namespace Go.VS
variable {P : Pg}
abbrev Eh := Except Int (Int × (Nat × List Node))
def B4 (s : Bs) (a : Nat) : Option (Int × (Int × Nat)) :=
 match EW s (a + 1) with
 | none => none
 | some (lo, nx) =>
  match (if isc s nx 44 = true then (if nx + 1 < s.length ∧ byt s (nx + 1) ≠ 125 then EW s (nx + 1) else some ((-1 : Int), nx + 1)) else some (lo, nx)) with
  | none => none
  | some (hi, e) => if isc s e 125 = true ∧ lo ≤ 100 ∧ hi ≤ 100 ∧ ¬ (0 ≤ hi ∧ hi < lo) then some (lo, (hi, e)) else none
theorem Pm {s : Bs} {a : Nat} {lo hi : Int} {e : Nat} (h : B4 s a = some (lo, (hi, e))) : a < e ∧ e < s.length ∧ 0 ≤ lo ∧ lo ≤ 100 ∧ (hi = -1 ∨ lo ≤ hi ∧ hi ≤ 100) := by
 unfold B4 at h
 split at h
 ·cases h
 rename_i lo' nx h1
 have k1 := Lp h1
 split at h
 ·cases h
 rename_i hi' e' h2
 split at h
 ·rename_i h3
  cases h
  have h4 := (Bi.1 h3.1).1
  split at h2
  ·split at h2
   ·have := Lp h2; omega
   ·cases h2; omega
  ·cases h2; omega
 ·cases h
def HM (k : Int) : Node := (k, (z4, ((0 : Int), ((0 : Int), []))))
def EV (k : Int) (kids : List Int) : Node := (k, (z4, ((0 : Int), ((0 : Int), kids))))
def Hf (lo hi k : Int) : Node := ((6 : Int), (z4, (lo, (hi, [k]))))
def El (rec : Int → Nat → List Node → Eh) (s : Bs) (d : Int) (a : Nat) (l : List Node) : Eh :=
 let c := byt s a
 if c = 40 then (if d ≥ 50 then .error 1 else match rec (d + 1) (a + 1) l with
  | .error e => .error e
  | .ok (k, (b, l1)) => if isc s b 41 = true then .ok (k, (b + 1, l1)) else .error 40)
 else if c = 91 then (match HE s (a + 1) with
  | none => .error 40
  | some (w, b) => .ok ((l.length : Int), (b, l ++ [setNode w])))
 else if c = 46 then .ok ((l.length : Int), (a + 1, l ++ [setNode (GM z4)]))
 else if c = 94 then .ok ((l.length : Int), (a + 1, l ++ [HM 2]))
 else if c = 36 then .ok ((l.length : Int), (a + 1, l ++ [HM 3]))
 else if c = 41 ∨ c = 124 ∨ c = 42 ∨ c = 43 ∨ c = 63 ∨ c = 123 then .error 40
 else if c = 92 then (if s.length ≤ a + 1 then .error 40 else .ok ((l.length : Int), (a + 2, l ++ [setNode (EG z4 (byt s (a + 1)))])))
 else .ok ((l.length : Int), (a + 1, l ++ [setNode (EG z4 c)]))
def D5 (s : Bs) (b : Nat) : Option (Option (Int × (Int × Nat))) :=
 if byt s b = 42 then some (some (0, (-1, b))) else if byt s b = 43 then some (some (1, (-1, b))) else if byt s b = 63 then some (some (0, (1, b))) else if byt s b = 123 then some (B4 s b) else none
def CI (rec : Int → Nat → List Node → Eh) (s : Bs) (d : Int) (a : Nat) (l : List Node) : Eh :=
 match El rec s d a l with
 | .error e => .error e
 | .ok (k, (b, l1)) => if s.length ≤ b then .ok (k, (b, l1)) else
  match D5 s b with
  | none => .ok (k, (b, l1))
  | some none => .error 40
  | some (some (lo, (hi, e))) => if byt s a = 94 ∨ byt s a = 36 then .error 40 else .ok ((l1.length : Int), (e + 1, l1 ++ [Hf lo hi k]))
def E0 (rec : Int → Nat → List Node → Eh) (s : Bs) (d : Int) : Nat → List Int → Nat → List Node → Except Int (List Int × (Nat × List Node))
 | 0, _, _, _ => .error 99
 | f + 1, kids, a, l => if a < s.length ∧ byt s a ≠ 124 ∧ ¬ (byt s a = 41 ∧ d > 0) then (match CI rec s d a l with
  | .error e => .error e
  | .ok (k, (b, l1)) => E0 rec s d f (kids ++ [k]) b l1) else .ok (kids, (a, l))
def Kh (rec : Int → Nat → List Node → Eh) (s : Bs) (d : Int) (a : Nat) (l : List Node) : Eh :=
 match E0 rec s d (s.length + 1) [] a l with
 | .error e => .error e
 | .ok (kids, (b, l1)) => if kids.length = 0 then .ok ((l1.length : Int), (b, l1 ++ [HM 0])) else if kids.length = 1 then .ok (kids.getD 0 0, (b, l1)) else .ok ((l1.length : Int), (b, l1 ++ [EV 4 kids]))
def Eg (rec : Int → Nat → List Node → Eh) (s : Bs) (d : Int) : Nat → List Int → Nat → List Node → Except Int (List Int × (Nat × List Node))
 | 0, _, _, _ => .error 99
 | f + 1, kids, a, l => if isc s a 124 = true then (match Kh rec s d (a + 1) l with
  | .error e => .error e
  | .ok (k, (b, l1)) => Eg rec s d f (kids ++ [k]) b l1) else .ok (kids, (a, l))
def Sb (rec : Int → Nat → List Node → Eh) (s : Bs) (d : Int) (a : Nat) (l : List Node) : Eh :=
 match Kh rec s d a l with
 | .error e => .error e
 | .ok (k, (b, l1)) => match Eg rec s d (s.length + 1) [k] b l1 with
  | .error e => .error e
  | .ok (kids, (b2, l2)) => if kids.length = 1 then .ok (kids.getD 0 0, (b2, l2)) else .ok ((l2.length : Int), (b2, l2 ++ [EV 5 kids]))
def Fj (s : Bs) : Nat → Int → Nat → List Node → Eh
 | 0 => fun _ _ _ => .error 99
 | n + 1 => Sb (Fj s n) s
def Dy (s : Bs) : List Node × Int :=
 if s.length > 256 then ([], 1) else match Fj s 51 0 0 [] with
  | .error e => ([], e)
  | .ok (_, (b, l)) => if b < s.length then ([], 40) else (l, 0)
def Lq (s : Bs) (n : Node) (i : Nat) : Prop := R8 n i ∧ n.2.2.2.2.length ≤ 2 * s.length + 2
structure Grow (s : Bs) (a : Nat) (l : List Node) (x : Nat) (k : Int) (b : Nat) (l' : List Node) : Prop where
 lo : a ≤ b
 hi : b ≤ s.length
 len : l'.length + x ≤ l.length + 2 * (b - a) + 1
 more : l.length < l'.length
 root : k + 1 = l'.length
 pre : ∃ m, l' = l ++ m
 ok : ∀ i, l.length ≤ i → i < l'.length → Lq s (l'.getD i Ak) i
def Fo (s : Bs) (a : Nat) (l : List Node) (x : Nat) (R : Eh) : Prop := match R with
 | .error e => e ≠ 0
 | .ok (k, (b, l')) => Grow s a l x k b l'
theorem HR {s : Bs} {k : Int} {i : Nat} (h0 : 0 ≤ k) (h3 : k ≤ 3) (w : Bb) : Lq s (k, (w, ((0 : Int), ((0 : Int), [])))) i :=
 ⟨⟨fun j hj => by simp at hj, h0, by dsimp only; omega, fun _ => rfl, fun h => by dsimp only at h; omega, fun h => by dsimp only at h; omega⟩, by simp⟩
theorem I2 {s : Bs} {a b : Nat} {l : List Node} {n : Node} (hab : a < b) (hb : b ≤ s.length) (hn : Lq s n l.length) : Grow s a l 2 (l.length : Int) b (l ++ [n]) := by
 refine ⟨by omega, hb, by simp; omega, by simp, by simp, ⟨[n], rfl⟩, fun i h1 h2 => ?_⟩
 have : i = l.length := by simp at h2; omega
 subst this
 rw [HI]
 exact hn
theorem Grow.snoc {s : Bs} {a b e : Nat} {l l1 : List Node} {k : Int} {x : Nat} {n : Node} {y : Nat} (g : Grow s a l x k b l1) (h1 : b ≤ e) (h2 : e ≤ s.length) (hy : 1 + y ≤ x + 2 * (e - b)) (hn : Lq s n l1.length) : Grow s a l y (l1.length : Int) e (l1 ++ [n]) := by
 obtain ⟨m, hm⟩ := g.pre
 have := g.lo; have := g.hi; have := g.len; have := g.more
 refine ⟨by omega, h2, by simp; omega, by simp; omega, by simp, ⟨m ++ [n], by rw [hm, List.append_assoc]⟩, fun i i1 i2 => ?_⟩
 rcases Nat.lt_or_ge i l1.length with h | h
 ·rw [Dx h]; exact g.ok i i1 h
 ·have : i = l1.length := by simp at i2; omega
  subst this
  rw [HI]
  exact hn
section
variable {rec : Int → Nat → List Node → Eh} {s : Bs} {d : Int}
theorem L5 (hrec : ∀ d a l, a ≤ s.length → Fo s a l 0 (rec d a l)) {a : Nat} {l : List Node} (ha : a < s.length) : Fo s a l 2 (El rec s d a l) := by
 unfold El
 dsimp only
 split
 ·split
  ·exact (by decide : (1 : Int) ≠ 0)
  ·have g := hrec (d + 1) (a + 1) l ha
   split
   ·rename_i e; rw [e] at g; exact g
   ·rename_i k b l1 e
    rw [e] at g
    split
    ·rename_i hb
     have hb := (Bi.1 hb).1
     have := g.lo; have := g.len
     exact ⟨by omega, by omega, by omega, g.more, g.root, g.pre, g.ok⟩
    ·exact (by decide : (40 : Int) ≠ 0)
 split
 ·split
  ·exact (by decide : (40 : Int) ≠ 0)
  ·rename_i w b e
   have := WD e (by omega)
   exact I2 (by omega) (by omega) (HR (by decide) (by decide) _)
 split
 ·exact I2 (by omega) (by omega) (HR (by decide) (by decide) _)
 split
 ·exact I2 (by omega) (by omega) (HR (by decide) (by decide) _)
 split
 ·exact I2 (by omega) (by omega) (HR (by decide) (by decide) _)
 split
 ·exact (by decide : (40 : Int) ≠ 0)
 split
 ·split
  ·exact (by decide : (40 : Int) ≠ 0)
  ·exact I2 (by omega) (by omega) (HR (by decide) (by decide) _)
 ·exact I2 (by omega) (by omega) (HR (by decide) (by decide) _)
theorem Xi {b : Nat} {lo hi : Int} {e : Nat} (h : D5 s b = some (some (lo, (hi, e)))) (hb : b < s.length) : b ≤ e ∧ e < s.length ∧ 0 ≤ lo ∧ lo ≤ 100 ∧ (hi = -1 ∨ lo ≤ hi ∧ hi ≤ 100) := by
 unfold D5 at h
 split at h
 ·cases h; omega
 split at h
 ·cases h; omega
 split at h
 ·cases h; omega
 split at h
 ·simp only [Option.some.injEq] at h
  have := Pm h
  omega
 ·cases h
theorem KU (hrec : ∀ d a l, a ≤ s.length → Fo s a l 0 (rec d a l)) {a : Nat} {l : List Node} (ha : a < s.length) : Fo s a l 2 (CI rec s d a l) := by
 unfold CI
 have g := L5 (d := d) hrec (l := l) ha
 split
 ·rename_i e; rw [e] at g; exact g
 rename_i k b l1 e
 rw [e] at g
 have g : Grow s a l 2 k b l1 := g
 split
 ·exact g
 rename_i hb
 split
 ·exact g
 ·exact (by decide : (40 : Int) ≠ 0)
 ·rename_i lo hi e' hq
  have := Xi hq (by omega)
  split
  ·exact (by decide : (40 : Int) ≠ 0)
  ·refine g.snoc (by omega) (by omega) (by omega) ⟨⟨fun j hj => ?_, show (0 : Int) ≤ 6 by decide, show (6 : Int) ≤ 6 by decide, fun h => absurd h (show ¬ (6 : Int) ≤ 3 by decide), fun h => absurd h (show ¬ ((6 : Int) = 4 ∨ (6 : Int) = 5) by decide), fun _ => ⟨rfl, by dsimp only [Hf]; omega, by dsimp only [Hf]; omega, ?_⟩⟩, by simp [Hf]⟩
   ·have : j = 0 := by simp [Hf] at hj; omega
    subst this
    have := g.root; have := g.more
    simp only [Hf, List.getD_cons_zero]
    omega
   ·dsimp only [Hf]; omega
structure Run (s : Bs) (a : Nat) (l : List Node) (x : Nat) (kids : List Int) (b : Nat) (l' : List Node) : Prop where
 lo : a ≤ b
 hi : b ≤ s.length
 len : l'.length + x ≤ l.length + 2 * (b - a) + 1
 pre : ∃ m, l' = l ++ m
 ok : ∀ i, l.length ≤ i → i < l'.length → Lq s (l'.getD i Ak) i
 mem : ∀ k ∈ kids, 0 ≤ k ∧ k < (l'.length : Int)
 root : ∀ k, kids = [k] → k + 1 = l'.length ∧ l.length < l'.length
def Abr (s : Bs) (a : Nat) (l : List Node) : Except Int (List Int × (Nat × List Node)) → Prop
 | .error e => e ≠ 0
 | .ok (kids, (b, l')) => Run s a l (kids.length + 1) kids b l'
def Abs (s : Bs) (a : Nat) (l : List Node) : Except Int (List Int × (Nat × List Node)) → Prop
 | .error e => e ≠ 0
 | .ok (kids, (b, l')) => kids ≠ [] ∧ ∃ x, Run s a l x kids b l' ∧ kids.length ≤ x + 1
theorem Run.step {a b e : Nat} {l l1 l2 : List Node} {x y z : Nat} {kids : List Int} {k : Int} (r : Run s a l x kids b l1) (g : Grow s b l1 y k e l2) (hz : z + 1 ≤ x + y) (hk : kids = [] ∨ 0 < kids.length) : Run s a l z (kids ++ [k]) e l2 := by
 obtain ⟨m, hm⟩ := r.pre
 obtain ⟨m2, hm2⟩ := g.pre
 have h1 := r.lo; have h2 := r.len; have h3 := g.lo; have h4 := g.len; have h5 := g.more; have h6 := g.root
 have hl1 : l.length ≤ l1.length := by rw [hm]; simp
 refine ⟨by omega, g.hi, by omega, ⟨m ++ m2, by rw [hm2, hm, List.append_assoc]⟩, fun i i1 i2 => ?_, fun q hq => ?_, fun q hq => ?_⟩
 ·rcases Nat.lt_or_ge i l1.length with h | h
  ·rw [hm2, Dx h]; exact r.ok i i1 h
  ·exact g.ok i h i2
 ·rcases List.mem_append.1 hq with hq | hq
  ·have := r.mem q hq; omega
  ·simp at hq; subst hq; omega
 ·rcases hk with rfl | hk
  ·simp at hq; subst hq; omega
  ·have := congrArg List.length hq
   rw [List.length_append] at this
   simp only [List.length_cons, List.length_nil] at this
   omega
theorem Oh (hrec : ∀ d a l, a ≤ s.length → Fo s a l 0 (rec d a l)) {a0 : Nat} {l0 : List Node} : ∀ {f : Nat} {kids : List Int} {a : Nat} {l : List Node}, s.length + 1 - a ≤ f → Run s a0 l0 (kids.length + 1) kids a l → Abr s a0 l0 (E0 rec s d f kids a l)
 | 0, _, a, _, hf, r => by have := r.hi; omega
 | f + 1, kids, a, l, hf, r => by
  rw [E0]
  split
  ·rename_i hc
   have g := KU (d := d) hrec (l := l) hc.1
   split
   ·rename_i e; rw [e] at g; exact g
   ·rename_i k b l1 e
    rw [e] at g
    have g : Grow s a l 2 k b l1 := g
    have hab : a < b := by have := g.len; have := g.more; omega
    exact Oh hrec (by omega) (r.step g (by rw [List.length_append]; simp only [List.length_cons, List.length_nil]; omega) (by cases kids <;> simp))
  ·exact r
theorem Run.snoc {a b : Nat} {l l1 : List Node} {x : Nat} {kids : List Int} {n : Node} (h : Run s a l x kids b l1) (hx : 1 ≤ x) (hn : Lq s n l1.length) : Grow s a l (x - 1) (l1.length : Int) b (l1 ++ [n]) := by
 obtain ⟨m, hm⟩ := h.pre
 have hlo := h.lo; have hlen := h.len
 have hl1 : l.length ≤ l1.length := by rw [hm]; simp
 refine ⟨hlo, h.hi, by simp; omega, by simp; omega, by simp, ⟨m ++ [n], by rw [hm, List.append_assoc]⟩, fun i i1 i2 => ?_⟩
 rcases Nat.lt_or_ge i l1.length with hi | hi
 ·rw [Dx hi]; exact h.ok i i1 hi
 ·have : i = l1.length := by simp at i2; omega
  subst this
  rw [HI]
  exact hn
theorem Grow.less {a b : Nat} {l l' : List Node} {x y : Nat} {k : Int} (g : Grow s a l x k b l') (h : y ≤ x) : Grow s a l y k b l' :=
 ⟨g.lo, g.hi, by have := g.len; omega, g.more, g.root, g.pre, g.ok⟩
theorem F6 (hrec : ∀ d a l, a ≤ s.length → Fo s a l 0 (rec d a l)) {a : Nat} {l : List Node} (ha : a ≤ s.length) : Fo s a l 0 (Kh rec s d a l) := by
 unfold Kh
 have h := Oh (d := d) hrec (a0 := a) (l0 := l) (f := s.length + 1) (kids := []) (a := a) (l := l) (by omega) ⟨Nat.le_refl _, ha, by simp, ⟨[], by simp⟩, fun i h1 h2 => by omega, fun k hk => by simp at hk, fun k hk => by simp at hk⟩
 split
 ·rename_i e; rw [e] at h; exact h
 ·rename_i kids b l1 e
  rw [e] at h
  have h : Run s a l (kids.length + 1) kids b l1 := h
  obtain ⟨m, hm⟩ := h.pre
  have hlo := h.lo; have hlen := h.len
  have hl1 : l.length ≤ l1.length := by rw [hm]; simp
  split
  ·exact (h.snoc (by omega) (HR (by decide) (by decide) _)).less (Nat.zero_le _)
  ·split
   ·rename_i h1
    obtain ⟨k, rfl⟩ := List.length_eq_one_iff.1 h1
    have := h.root k rfl
    exact ⟨hlo, h.hi, by simp at hlen; omega, this.2, this.1, h.pre, h.ok⟩
   ·refine (h.snoc (by omega) ⟨⟨fun j hj => ?_, show (0 : Int) ≤ 4 by decide, show (4 : Int) ≤ 6 by decide, fun h => absurd h (show ¬ (4 : Int) ≤ 3 by decide), fun _ => ?_, fun h => absurd h (show ¬ (4 : Int) = 6 by decide)⟩, by show kids.length ≤ _; have := h.len; have := h.hi; omega⟩).less (Nat.zero_le _)
    ·dsimp only [EV] at hj ⊢
     have := h.mem _ (S7 (d := 0) hj)
     exact this
    ·dsimp only [EV]; omega
theorem OD (hrec : ∀ d a l, a ≤ s.length → Fo s a l 0 (rec d a l)) {a0 : Nat} {l0 : List Node} : ∀ {f : Nat} {kids : List Int} {a : Nat} {l : List Node}, s.length + 1 - a ≤ f → (∃ x, Run s a0 l0 x kids a (l) ∧ kids.length ≤ x + 1) → kids ≠ [] → Abs s a0 l0 (Eg rec s d f kids a l)
 | 0, _, a, _, hf, ⟨x, r, hx⟩, _ => by have := r.hi; omega
 | f + 1, kids, a, l, hf, ⟨x, r, hx⟩, hk => by
  rw [Eg]
  split
  ·rename_i hc
   have hc := (Bi.1 hc).1
   have g := F6 (d := d) hrec (a := a + 1) (l := l) hc
   split
   ·rename_i e; rw [e] at g; exact g
   ·rename_i k b l1 e
    rw [e] at g
    have g : Grow s (a + 1) l 0 k b l1 := g
    have hab := g.lo
    have g2 : Grow s a l 2 k b l1 := ⟨by omega, g.hi, by have := g.len; omega, g.more, g.root, g.pre, g.ok⟩
    refine OD hrec (by omega) ⟨x + 1, r.step g2 (by omega) ?_, by simp; omega⟩ (by simp)
    cases kids <;> simp
  ·exact ⟨hk, x, r, hx⟩
theorem Xd (hrec : ∀ d a l, a ≤ s.length → Fo s a l 0 (rec d a l)) {a : Nat} {l : List Node} (ha : a ≤ s.length) : Fo s a l 0 (Sb rec s d a l) := by
 unfold Sb
 have g := F6 (d := d) hrec (l := l) ha
 split
 ·rename_i e; rw [e] at g; exact g
 rename_i k b l1 e
 rw [e] at g
 have g : Grow s a l 0 k b l1 := g
 have hroot := g.root; have hmore := g.more
 have h := OD (d := d) hrec (a0 := a) (l0 := l) (f := s.length + 1) (kids := [k]) (a := b) (l := l1) (by omega) ⟨0, ⟨g.lo, g.hi, g.len, g.pre, g.ok, fun q hq => by simp at hq; subst hq; omega, fun q hq => by simp at hq; subst hq; omega⟩, by simp⟩ (by simp)
 split
 ·rename_i e2; rw [e2] at h; exact h
 ·rename_i kids b2 l2 e2
  rw [e2] at h
  obtain ⟨hk, x, h, hx⟩ := h
  split
  ·rename_i h1
   obtain ⟨q, rfl⟩ := List.length_eq_one_iff.1 h1
   have := h.root q rfl
   exact ⟨h.lo, h.hi, by have := h.len; omega, this.2, this.1, h.pre, h.ok⟩
  ·rename_i h1
   have h2 : 2 ≤ kids.length := by
    cases kids with
    | nil => exact absurd rfl hk
    | cons q r => cases r <;> simp at h1 ⊢
   have hkl : kids.length ≤ 2 * s.length + 2 := by
    have h3 := h.len; have h4 := h.hi
    obtain ⟨m, hm⟩ := h.pre
    have hl : l2.length = l.length + m.length := by rw [hm]; simp
    omega
   refine (h.snoc (by omega) ⟨⟨fun j hj => ?_, show (0 : Int) ≤ 5 by decide, show (5 : Int) ≤ 6 by decide, fun h => absurd h (show ¬ (5 : Int) ≤ 3 by decide), fun _ => h2, fun h => absurd h (show ¬ (5 : Int) = 6 by decide)⟩, hkl⟩).less (Nat.zero_le _)
   dsimp only [EV] at hj ⊢
   exact h.mem _ (S7 (d := 0) hj)
end
theorem C7 (s : Bs) : ∀ n d a l, a ≤ s.length → Fo s a l 0 (Fj s n d a l)
 | 0, d, a, l, _ => (by decide : (99 : Int) ≠ 0)
 | n + 1, d, a, l, h => Xd (C7 s n) h
end Go.VS
