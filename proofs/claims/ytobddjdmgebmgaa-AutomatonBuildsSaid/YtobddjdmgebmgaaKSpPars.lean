/- The reader of patterns as a plain function. -/
import Derived.Test.YtobddjdmgebmgaaKSpClass
import Derived.Test.YtobddjdmgebmgaaKSpNode
set_option linter.unusedVariables false
set_option linter.unusedSimpArgs false
set_option linter.unusedSectionVars false
namespace Go.VS
variable {P : Program}
abbrev PRes := Except Int (Int × (Nat × List Node))
def boundsF (s : Bs) (a : Nat) : Option (Int × (Int × Nat)) :=
 match numF s (a + 1) with
 | none => none
 | some (lo, nx) =>
  match (if isc s nx 44 = true then (if nx + 1 < s.length ∧ byt s (nx + 1) ≠ 125 then numF s (nx + 1) else some ((-1 : Int), nx + 1)) else some (lo, nx)) with
  | none => none
  | some (hi, e) => if isc s e 125 = true ∧ lo ≤ 100 ∧ hi ≤ 100 ∧ ¬ (0 ≤ hi ∧ hi < lo) then some (lo, (hi, e)) else none
theorem boundsF_le {s : Bs} {a : Nat} {lo hi : Int} {e : Nat} (h : boundsF s a = some (lo, (hi, e))) : a < e ∧ e < s.length ∧ 0 ≤ lo ∧ lo ≤ 100 ∧ (hi = -1 ∨ lo ≤ hi ∧ hi ≤ 100) := by
 unfold boundsF at h
 split at h
 ·cases h
 rename_i lo' nx h1
 have k1 := numF_le h1
 split at h
 ·cases h
 rename_i hi' e' h2
 split at h
 ·rename_i h3
  cases h
  have h4 := (isc_true.1 h3.1).1
  split at h2
  ·split at h2
   ·have := numF_le h2; omega
   ·cases h2; omega
  ·cases h2; omega
 ·cases h
def leafNode (k : Int) : Node := (k, (z4, ((0 : Int), ((0 : Int), []))))
def kidsNode (k : Int) (kids : List Int) : Node := (k, (z4, ((0 : Int), ((0 : Int), kids))))
def repNode (lo hi k : Int) : Node := ((6 : Int), (z4, (lo, (hi, [k]))))
def atomF (rec : Int → Nat → List Node → PRes) (s : Bs) (d : Int) (a : Nat) (l : List Node) : PRes :=
 let c := byt s a
 if c = 40 then (if d ≥ 50 then .error 1 else match rec (d + 1) (a + 1) l with
  | .error e => .error e
  | .ok (k, (b, l1)) => if isc s b 41 = true then .ok (k, (b + 1, l1)) else .error 40)
 else if c = 91 then (match classF s (a + 1) with
  | none => .error 40
  | some (w, b) => .ok ((l.length : Int), (b, l ++ [setNode w])))
 else if c = 46 then .ok ((l.length : Int), (a + 1, l ++ [setNode (complF z4)]))
 else if c = 94 then .ok ((l.length : Int), (a + 1, l ++ [leafNode 2]))
 else if c = 36 then .ok ((l.length : Int), (a + 1, l ++ [leafNode 3]))
 else if c = 41 ∨ c = 124 ∨ c = 42 ∨ c = 43 ∨ c = 63 ∨ c = 123 then .error 40
 else if c = 92 then (if s.length ≤ a + 1 then .error 40 else .ok ((l.length : Int), (a + 2, l ++ [setNode (putF z4 (byt s (a + 1)))])))
 else .ok ((l.length : Int), (a + 1, l ++ [setNode (putF z4 c)]))
def quantF (s : Bs) (b : Nat) : Option (Option (Int × (Int × Nat))) :=
 if byt s b = 42 then some (some (0, (-1, b))) else if byt s b = 43 then some (some (1, (-1, b))) else if byt s b = 63 then some (some (0, (1, b))) else if byt s b = 123 then some (boundsF s b) else none
def pieceF (rec : Int → Nat → List Node → PRes) (s : Bs) (d : Int) (a : Nat) (l : List Node) : PRes :=
 match atomF rec s d a l with
 | .error e => .error e
 | .ok (k, (b, l1)) => if s.length ≤ b then .ok (k, (b, l1)) else
  match quantF s b with
  | none => .ok (k, (b, l1))
  | some none => .error 40
  | some (some (lo, (hi, e))) => if byt s a = 94 ∨ byt s a = 36 then .error 40 else .ok ((l1.length : Int), (e + 1, l1 ++ [repNode lo hi k]))
def altLoop (rec : Int → Nat → List Node → PRes) (s : Bs) (d : Int) : Nat → List Int → Nat → List Node → Except Int (List Int × (Nat × List Node))
 | 0, _, _, _ => .error 99
 | f + 1, kids, a, l => if a < s.length ∧ byt s a ≠ 124 ∧ ¬ (byt s a = 41 ∧ d > 0) then (match pieceF rec s d a l with
  | .error e => .error e
  | .ok (k, (b, l1)) => altLoop rec s d f (kids ++ [k]) b l1) else .ok (kids, (a, l))
def altF (rec : Int → Nat → List Node → PRes) (s : Bs) (d : Int) (a : Nat) (l : List Node) : PRes :=
 match altLoop rec s d (s.length + 1) [] a l with
 | .error e => .error e
 | .ok (kids, (b, l1)) => if kids.length = 0 then .ok ((l1.length : Int), (b, l1 ++ [leafNode 0])) else if kids.length = 1 then .ok (kids.getD 0 0, (b, l1)) else .ok ((l1.length : Int), (b, l1 ++ [kidsNode 4 kids]))
def patLoop (rec : Int → Nat → List Node → PRes) (s : Bs) (d : Int) : Nat → List Int → Nat → List Node → Except Int (List Int × (Nat × List Node))
 | 0, _, _, _ => .error 99
 | f + 1, kids, a, l => if isc s a 124 = true then (match altF rec s d (a + 1) l with
  | .error e => .error e
  | .ok (k, (b, l1)) => patLoop rec s d f (kids ++ [k]) b l1) else .ok (kids, (a, l))
def patS (rec : Int → Nat → List Node → PRes) (s : Bs) (d : Int) (a : Nat) (l : List Node) : PRes :=
 match altF rec s d a l with
 | .error e => .error e
 | .ok (k, (b, l1)) => match patLoop rec s d (s.length + 1) [k] b l1 with
  | .error e => .error e
  | .ok (kids, (b2, l2)) => if kids.length = 1 then .ok (kids.getD 0 0, (b2, l2)) else .ok ((l2.length : Int), (b2, l2 ++ [kidsNode 5 kids]))
def patN (s : Bs) : Nat → Int → Nat → List Node → PRes
 | 0 => fun _ _ _ => .error 99
 | n + 1 => patS (patN s n) s
def parseF (s : Bs) : List Node × Int :=
 if s.length > 256 then ([], 1) else match patN s 51 0 0 [] with
  | .error e => ([], e)
  | .ok (_, (b, l)) => if b < s.length then ([], 40) else (l, 0)
def okNodeS (s : Bs) (n : Node) (i : Nat) : Prop := okNode n i ∧ n.2.2.2.2.length ≤ 2 * s.length + 2
structure Grow (s : Bs) (a : Nat) (l : List Node) (x : Nat) (k : Int) (b : Nat) (l' : List Node) : Prop where
 lo : a ≤ b
 hi : b ≤ s.length
 len : l'.length + x ≤ l.length + 2 * (b - a) + 1
 more : l.length < l'.length
 root : k + 1 = l'.length
 pre : ∃ m, l' = l ++ m
 ok : ∀ i, l.length ≤ i → i < l'.length → okNodeS s (l'.getD i zNode) i
def GrowR (s : Bs) (a : Nat) (l : List Node) (x : Nat) (R : PRes) : Prop := match R with
 | .error e => e ≠ 0
 | .ok (k, (b, l')) => Grow s a l x k b l'
theorem ok_leafN {s : Bs} {k : Int} {i : Nat} (h0 : 0 ≤ k) (h3 : k ≤ 3) (w : Set4) : okNodeS s (k, (w, ((0 : Int), ((0 : Int), [])))) i :=
 ⟨⟨fun j hj => by simp at hj, h0, by dsimp only; omega, fun _ => rfl, fun h => by dsimp only at h; omega, fun h => by dsimp only at h; omega⟩, by simp⟩
theorem grow_one {s : Bs} {a b : Nat} {l : List Node} {n : Node} (hab : a < b) (hb : b ≤ s.length) (hn : okNodeS s n l.length) : Grow s a l 2 (l.length : Int) b (l ++ [n]) := by
 refine ⟨by omega, hb, by simp; omega, by simp, by simp, ⟨[n], rfl⟩, fun i h1 h2 => ?_⟩
 have : i = l.length := by simp at h2; omega
 subst this
 rw [getD_append_at]
 exact hn
theorem Grow.snoc {s : Bs} {a b e : Nat} {l l1 : List Node} {k : Int} {x : Nat} {n : Node} {y : Nat} (g : Grow s a l x k b l1) (h1 : b ≤ e) (h2 : e ≤ s.length) (hy : 1 + y ≤ x + 2 * (e - b)) (hn : okNodeS s n l1.length) : Grow s a l y (l1.length : Int) e (l1 ++ [n]) := by
 obtain ⟨m, hm⟩ := g.pre
 have := g.lo; have := g.hi; have := g.len; have := g.more
 refine ⟨by omega, h2, by simp; omega, by simp; omega, by simp, ⟨m ++ [n], by rw [hm, List.append_assoc]⟩, fun i i1 i2 => ?_⟩
 rcases Nat.lt_or_ge i l1.length with h | h
 ·rw [getD_append_left h]; exact g.ok i i1 h
 ·have : i = l1.length := by simp at i2; omega
  subst this
  rw [getD_append_at]
  exact hn
section
variable {rec : Int → Nat → List Node → PRes} {s : Bs} {d : Int}
theorem atomF_grow (hrec : ∀ d a l, a ≤ s.length → GrowR s a l 0 (rec d a l)) {a : Nat} {l : List Node} (ha : a < s.length) : GrowR s a l 2 (atomF rec s d a l) := by
 unfold atomF
 dsimp only
 split
 ·split
  ·exact (by decide : (1 : Int) ≠ 0)
  ·have g := hrec (d + 1) (a + 1) l ha
   split
   ·rename_i e; rw [e] at g; exact g
   ·rename_i k b l1 e
    rw [e] at g
    split
    ·rename_i hb
     have hb := (isc_true.1 hb).1
     have := g.lo; have := g.len
     exact ⟨by omega, by omega, by omega, g.more, g.root, g.pre, g.ok⟩
    ·exact (by decide : (40 : Int) ≠ 0)
 split
 ·split
  ·exact (by decide : (40 : Int) ≠ 0)
  ·rename_i w b e
   have := classF_le e (by omega)
   exact grow_one (by omega) (by omega) (ok_leafN (by decide) (by decide) _)
 split
 ·exact grow_one (by omega) (by omega) (ok_leafN (by decide) (by decide) _)
 split
 ·exact grow_one (by omega) (by omega) (ok_leafN (by decide) (by decide) _)
 split
 ·exact grow_one (by omega) (by omega) (ok_leafN (by decide) (by decide) _)
 split
 ·exact (by decide : (40 : Int) ≠ 0)
 split
 ·split
  ·exact (by decide : (40 : Int) ≠ 0)
  ·exact grow_one (by omega) (by omega) (ok_leafN (by decide) (by decide) _)
 ·exact grow_one (by omega) (by omega) (ok_leafN (by decide) (by decide) _)
theorem quantF_le {b : Nat} {lo hi : Int} {e : Nat} (h : quantF s b = some (some (lo, (hi, e)))) (hb : b < s.length) : b ≤ e ∧ e < s.length ∧ 0 ≤ lo ∧ lo ≤ 100 ∧ (hi = -1 ∨ lo ≤ hi ∧ hi ≤ 100) := by
 unfold quantF at h
 split at h
 ·cases h; omega
 split at h
 ·cases h; omega
 split at h
 ·cases h; omega
 split at h
 ·simp only [Option.some.injEq] at h
  have := boundsF_le h
  omega
 ·cases h
theorem pieceF_grow (hrec : ∀ d a l, a ≤ s.length → GrowR s a l 0 (rec d a l)) {a : Nat} {l : List Node} (ha : a < s.length) : GrowR s a l 2 (pieceF rec s d a l) := by
 unfold pieceF
 have g := atomF_grow (d := d) hrec (l := l) ha
 split
 ·rename_i e; rw [e] at g; exact g
 rename_i k b l1 e
 rw [e] at g
 have g : Grow s a l 2 k b l1 := g
 split
 ·exact g
 rename_i hb
 split
 ·exact g
 ·exact (by decide : (40 : Int) ≠ 0)
 ·rename_i lo hi e' hq
  have := quantF_le hq (by omega)
  split
  ·exact (by decide : (40 : Int) ≠ 0)
  ·refine g.snoc (by omega) (by omega) (by omega) ⟨⟨fun j hj => ?_, show (0 : Int) ≤ 6 by decide, show (6 : Int) ≤ 6 by decide, fun h => absurd h (show ¬ (6 : Int) ≤ 3 by decide), fun h => absurd h (show ¬ ((6 : Int) = 4 ∨ (6 : Int) = 5) by decide), fun _ => ⟨rfl, by dsimp only [repNode]; omega, by dsimp only [repNode]; omega, ?_⟩⟩, by simp [repNode]⟩
   ·have : j = 0 := by simp [repNode] at hj; omega
    subst this
    have := g.root; have := g.more
    simp only [repNode, List.getD_cons_zero]
    omega
   ·dsimp only [repNode]; omega
structure Run (s : Bs) (a : Nat) (l : List Node) (x : Nat) (kids : List Int) (b : Nat) (l' : List Node) : Prop where
 lo : a ≤ b
 hi : b ≤ s.length
 len : l'.length + x ≤ l.length + 2 * (b - a) + 1
 pre : ∃ m, l' = l ++ m
 ok : ∀ i, l.length ≤ i → i < l'.length → okNodeS s (l'.getD i zNode) i
 mem : ∀ k ∈ kids, 0 ≤ k ∧ k < (l'.length : Int)
 root : ∀ k, kids = [k] → k + 1 = l'.length ∧ l.length < l'.length
def AltR (s : Bs) (a : Nat) (l : List Node) : Except Int (List Int × (Nat × List Node)) → Prop
 | .error e => e ≠ 0
 | .ok (kids, (b, l')) => Run s a l (kids.length + 1) kids b l'
def PatR (s : Bs) (a : Nat) (l : List Node) : Except Int (List Int × (Nat × List Node)) → Prop
 | .error e => e ≠ 0
 | .ok (kids, (b, l')) => kids ≠ [] ∧ ∃ x, Run s a l x kids b l' ∧ kids.length ≤ x + 1
theorem Run.step {a b e : Nat} {l l1 l2 : List Node} {x y z : Nat} {kids : List Int} {k : Int} (r : Run s a l x kids b l1) (g : Grow s b l1 y k e l2) (hz : z + 1 ≤ x + y) (hk : kids = [] ∨ 0 < kids.length) : Run s a l z (kids ++ [k]) e l2 := by
 obtain ⟨m, hm⟩ := r.pre
 obtain ⟨m2, hm2⟩ := g.pre
 have h1 := r.lo; have h2 := r.len; have h3 := g.lo; have h4 := g.len; have h5 := g.more; have h6 := g.root
 have hl1 : l.length ≤ l1.length := by rw [hm]; simp
 refine ⟨by omega, g.hi, by omega, ⟨m ++ m2, by rw [hm2, hm, List.append_assoc]⟩, fun i i1 i2 => ?_, fun q hq => ?_, fun q hq => ?_⟩
 ·rcases Nat.lt_or_ge i l1.length with h | h
  ·rw [hm2, getD_append_left h]; exact r.ok i i1 h
  ·exact g.ok i h i2
 ·rcases List.mem_append.1 hq with hq | hq
  ·have := r.mem q hq; omega
  ·simp at hq; subst hq; omega
 ·rcases hk with rfl | hk
  ·simp at hq; subst hq; omega
  ·have := congrArg List.length hq
   rw [List.length_append] at this
   simp only [List.length_cons, List.length_nil] at this
   omega
theorem altLoop_run (hrec : ∀ d a l, a ≤ s.length → GrowR s a l 0 (rec d a l)) {a0 : Nat} {l0 : List Node} : ∀ {f : Nat} {kids : List Int} {a : Nat} {l : List Node}, s.length + 1 - a ≤ f → Run s a0 l0 (kids.length + 1) kids a l → AltR s a0 l0 (altLoop rec s d f kids a l)
 | 0, _, a, _, hf, r => by have := r.hi; omega
 | f + 1, kids, a, l, hf, r => by
  rw [altLoop]
  split
  ·rename_i hc
   have g := pieceF_grow (d := d) hrec (l := l) hc.1
   split
   ·rename_i e; rw [e] at g; exact g
   ·rename_i k b l1 e
    rw [e] at g
    have g : Grow s a l 2 k b l1 := g
    have hab : a < b := by have := g.len; have := g.more; omega
    exact altLoop_run hrec (by omega) (r.step g (by rw [List.length_append]; simp only [List.length_cons, List.length_nil]; omega) (by cases kids <;> simp))
  ·exact r
theorem Run.snoc {a b : Nat} {l l1 : List Node} {x : Nat} {kids : List Int} {n : Node} (h : Run s a l x kids b l1) (hx : 1 ≤ x) (hn : okNodeS s n l1.length) : Grow s a l (x - 1) (l1.length : Int) b (l1 ++ [n]) := by
 obtain ⟨m, hm⟩ := h.pre
 have hlo := h.lo; have hlen := h.len
 have hl1 : l.length ≤ l1.length := by rw [hm]; simp
 refine ⟨hlo, h.hi, by simp; omega, by simp; omega, by simp, ⟨m ++ [n], by rw [hm, List.append_assoc]⟩, fun i i1 i2 => ?_⟩
 rcases Nat.lt_or_ge i l1.length with hi | hi
 ·rw [getD_append_left hi]; exact h.ok i i1 hi
 ·have : i = l1.length := by simp at i2; omega
  subst this
  rw [getD_append_at]
  exact hn
theorem Grow.less {a b : Nat} {l l' : List Node} {x y : Nat} {k : Int} (g : Grow s a l x k b l') (h : y ≤ x) : Grow s a l y k b l' :=
 ⟨g.lo, g.hi, by have := g.len; omega, g.more, g.root, g.pre, g.ok⟩
theorem altF_grow (hrec : ∀ d a l, a ≤ s.length → GrowR s a l 0 (rec d a l)) {a : Nat} {l : List Node} (ha : a ≤ s.length) : GrowR s a l 0 (altF rec s d a l) := by
 unfold altF
 have h := altLoop_run (d := d) hrec (a0 := a) (l0 := l) (f := s.length + 1) (kids := []) (a := a) (l := l) (by omega) ⟨Nat.le_refl _, ha, by simp, ⟨[], by simp⟩, fun i h1 h2 => by omega, fun k hk => by simp at hk, fun k hk => by simp at hk⟩
 split
 ·rename_i e; rw [e] at h; exact h
 ·rename_i kids b l1 e
  rw [e] at h
  have h : Run s a l (kids.length + 1) kids b l1 := h
  obtain ⟨m, hm⟩ := h.pre
  have hlo := h.lo; have hlen := h.len
  have hl1 : l.length ≤ l1.length := by rw [hm]; simp
  split
  ·exact (h.snoc (by omega) (ok_leafN (by decide) (by decide) _)).less (Nat.zero_le _)
  ·split
   ·rename_i h1
    obtain ⟨k, rfl⟩ := List.length_eq_one_iff.1 h1
    have := h.root k rfl
    exact ⟨hlo, h.hi, by simp at hlen; omega, this.2, this.1, h.pre, h.ok⟩
   ·refine (h.snoc (by omega) ⟨⟨fun j hj => ?_, show (0 : Int) ≤ 4 by decide, show (4 : Int) ≤ 6 by decide, fun h => absurd h (show ¬ (4 : Int) ≤ 3 by decide), fun _ => ?_, fun h => absurd h (show ¬ (4 : Int) = 6 by decide)⟩, by show kids.length ≤ _; have := h.len; have := h.hi; omega⟩).less (Nat.zero_le _)
    ·dsimp only [kidsNode] at hj ⊢
     have := h.mem _ (getD_mem (d := 0) hj)
     exact this
    ·dsimp only [kidsNode]; omega
theorem patLoop_run (hrec : ∀ d a l, a ≤ s.length → GrowR s a l 0 (rec d a l)) {a0 : Nat} {l0 : List Node} : ∀ {f : Nat} {kids : List Int} {a : Nat} {l : List Node}, s.length + 1 - a ≤ f → (∃ x, Run s a0 l0 x kids a (l) ∧ kids.length ≤ x + 1) → kids ≠ [] → PatR s a0 l0 (patLoop rec s d f kids a l)
 | 0, _, a, _, hf, ⟨x, r, hx⟩, _ => by have := r.hi; omega
 | f + 1, kids, a, l, hf, ⟨x, r, hx⟩, hk => by
  rw [patLoop]
  split
  ·rename_i hc
   have hc := (isc_true.1 hc).1
   have g := altF_grow (d := d) hrec (a := a + 1) (l := l) hc
   split
   ·rename_i e; rw [e] at g; exact g
   ·rename_i k b l1 e
    rw [e] at g
    have g : Grow s (a + 1) l 0 k b l1 := g
    have hab := g.lo
    have g2 : Grow s a l 2 k b l1 := ⟨by omega, g.hi, by have := g.len; omega, g.more, g.root, g.pre, g.ok⟩
    refine patLoop_run hrec (by omega) ⟨x + 1, r.step g2 (by omega) ?_, by simp; omega⟩ (by simp)
    cases kids <;> simp
  ·exact ⟨hk, x, r, hx⟩
theorem patS_grow (hrec : ∀ d a l, a ≤ s.length → GrowR s a l 0 (rec d a l)) {a : Nat} {l : List Node} (ha : a ≤ s.length) : GrowR s a l 0 (patS rec s d a l) := by
 unfold patS
 have g := altF_grow (d := d) hrec (l := l) ha
 split
 ·rename_i e; rw [e] at g; exact g
 rename_i k b l1 e
 rw [e] at g
 have g : Grow s a l 0 k b l1 := g
 have hroot := g.root; have hmore := g.more
 have h := patLoop_run (d := d) hrec (a0 := a) (l0 := l) (f := s.length + 1) (kids := [k]) (a := b) (l := l1) (by omega) ⟨0, ⟨g.lo, g.hi, g.len, g.pre, g.ok, fun q hq => by simp at hq; subst hq; omega, fun q hq => by simp at hq; subst hq; omega⟩, by simp⟩ (by simp)
 split
 ·rename_i e2; rw [e2] at h; exact h
 ·rename_i kids b2 l2 e2
  rw [e2] at h
  obtain ⟨hk, x, h, hx⟩ := h
  split
  ·rename_i h1
   obtain ⟨q, rfl⟩ := List.length_eq_one_iff.1 h1
   have := h.root q rfl
   exact ⟨h.lo, h.hi, by have := h.len; omega, this.2, this.1, h.pre, h.ok⟩
  ·rename_i h1
   have h2 : 2 ≤ kids.length := by
    cases kids with
    | nil => exact absurd rfl hk
    | cons q r => cases r <;> simp at h1 ⊢
   have hkl : kids.length ≤ 2 * s.length + 2 := by
    have h3 := h.len; have h4 := h.hi
    obtain ⟨m, hm⟩ := h.pre
    have hl : l2.length = l.length + m.length := by rw [hm]; simp
    omega
   refine (h.snoc (by omega) ⟨⟨fun j hj => ?_, show (0 : Int) ≤ 5 by decide, show (5 : Int) ≤ 6 by decide, fun h => absurd h (show ¬ (5 : Int) ≤ 3 by decide), fun _ => h2, fun h => absurd h (show ¬ (5 : Int) = 6 by decide)⟩, hkl⟩).less (Nat.zero_le _)
   dsimp only [kidsNode] at hj ⊢
   exact h.mem _ (getD_mem (d := 0) hj)
end
theorem patN_grow (s : Bs) : ∀ n d a l, a ≤ s.length → GrowR s a l 0 (patN s n d a l)
 | 0, d, a, l, _ => (by decide : (99 : Int) ≠ 0)
 | n + 1, d, a, l, h => patS_grow (patN_grow s n) h
end Go.VS
