/- The reader of patterns: its small steps. -/
import Derived.Test.YtobddjdmgebmgaaKSpNum
set_option linter.unusedVariables false
set_option linter.unusedSimpArgs false
namespace Go.VS
variable {P : Program}
def Sp_is (P : Program) : Prop := ∀ x : ref04_reader × Int, 0 ≤ x.1.2.1 → Fn P "(*mergelens/mergelensref04.reader).is" S_ref04_reader_is x fun (d : Bool) (e : ref04_reader) => e = x.1 ∧ (d = true ↔ x.1.2.1 < x.1.1.length ∧ ((x.1.1.getD x.1.2.1.toNat 0).toNat : Int) = x.2)
theorem sp_is (h : Has P F_ref04_reader_is) : Sp_is P := by
 rintro ⟨⟨s, a, dp, l, e⟩, c⟩ ha
 dsimp only at ha
 refine fn_ref04_reader_is h ?_
 unfold W_ref04_reader_is
 dsimp only
 refine JoinW.mid (fun d => d = true ↔ a < s.length ∧ ((s.getD a.toNat 0).toNat : Int) = c) ⟨fun hc => ⟨ha, of_decide_eq_true hc⟩, ?_, trivial⟩ fun d hd => ⟨rfl, hd⟩
 rw [Bool.cond_eq_ite]
 split
 ·rename_i h1
  have h1 := of_decide_eq_true h1
  simp only [beq_iff_eq]
  exact ⟨fun h => ⟨h1, h⟩, fun h => h.2⟩
 ·rename_i h1
  have h1 : ¬ a < s.length := fun h => h1 (decide_eq_true h)
  exact ⟨fun h => (nomatch h), fun h => (h1 h.1).elim⟩
def Sp_node (P : Program) : Prop := ∀ x : ref04_reader × Node, x.1.2.2.2.1.length ≤ 1000000000 → Fn P "(*mergelens/mergelensref04.reader).node" S_ref04_reader_node x fun (d : Int) (e : ref04_reader) => d = x.1.2.2.2.1.length ∧ e = (x.1.1, (x.1.2.1, (x.1.2.2.1, (x.1.2.2.2.1 ++ [x.2], x.1.2.2.2.2))))
theorem sp_node (h : Has P F_ref04_reader_node) : Sp_node P := by
 rintro ⟨⟨s, a, dp, l, e⟩, n⟩ hl
 dsimp only at hl
 refine fn_ref04_reader_node h ?_
 unfold W_ref04_reader_node
 dsimp only
 refine JoinW.mid (fun d => d = (s, (a, (dp, (l ++ [n], e))))) ?_ ?_
 ·simp only [List.length_cons, List.length_nil, and_true, and_self]
  omega
 ·rintro d rfl
  dsimp only
  have hlen : (l ++ [n]).length = l.length + 1 := by simp
  rw [hlen, w64 (by omega) (by omega)]
  exact ⟨by omega, rfl⟩
def Sp_fail (P : Program) : Prop := ∀ x : ref04_reader × Int, Fn P "(*mergelens/mergelensref04.reader).fail" S_ref04_reader_fail x fun (d : Int) (e : ref04_reader) => d = 0 ∧ e = (x.1.1, (x.1.2.1, (x.1.2.2.1, (x.1.2.2.2.1, if x.1.2.2.2.2 = 0 then x.2 else x.1.2.2.2.2))))
theorem sp_fail (h : Has P F_ref04_reader_fail) : Sp_fail P := by
 rintro ⟨⟨s, a, dp, l, e⟩, c⟩
 refine fn_ref04_reader_fail h ?_
 unfold W_ref04_reader_fail
 dsimp only
 refine JoinW.mid (fun d => d = (s, (a, (dp, (l, if e = 0 then c else e))))) ⟨fun hc => ?_, fun hc => ?_⟩ fun d hd => ⟨rfl, hd⟩
 ·rw [if_pos (eq_of_beq hc)]
 ·rw [if_neg (ne_of_beq_false hc)]
theorem Sp_fail.at (h : Sp_fail P) {s : Bs} {a d : Int} {l : List Node} {e c : Int} {K : Int → ref04_reader → Prop} (hk : ∀ k r, k = 0 → r.2.2.2.2 = (if e = 0 then c else e) → K k r) : Fn P "(*mergelens/mergelensref04.reader).fail" S_ref04_reader_fail ((s, (a, (d, (l, e)))), c) K :=
 (h ((s, (a, (d, (l, e)))), c)).to fun (k : Int) (r : ref04_reader) hr => hk k r hr.1 (by rw [hr.2])
theorem Sp_is.at (h : Sp_is P) {s : Bs} {a d : Int} {l : List Node} {e c : Int} {K : Bool → ref04_reader → Prop} (ha : 0 ≤ a) (hk : K (isc s a.toNat c) (s, (a, (d, (l, e))))) : Fn P "(*mergelens/mergelensref04.reader).is" S_ref04_reader_is ((s, (a, (d, (l, e)))), c) K :=
 (h ((s, (a, (d, (l, e)))), c) ha).to fun (b : Bool) (r : ref04_reader) hr => by
  obtain ⟨rfl, hb⟩ := hr
  have : b = isc s a.toNat c := by
   rw [Bool.eq_iff_iff, hb, isc_true]
   dsimp only
   exact ⟨fun h => ⟨by omega, h.2⟩, fun h => ⟨by omega, h.2⟩⟩
  rw [this]; exact hk
theorem Sp_node.at (h : Sp_node P) {s : Bs} {a d : Int} {l : List Node} {e : Int} {n : Node} {K : Int → ref04_reader → Prop} (hl : l.length ≤ 1000000000) (hk : K (l.length : Int) (s, (a, (d, (l ++ [n], e))))) : Fn P "(*mergelens/mergelensref04.reader).node" S_ref04_reader_node ((s, (a, (d, (l, e)))), n) K :=
 (h ((s, (a, (d, (l, e)))), n) hl).to fun (b : Int) (r : ref04_reader) hr => by
  obtain ⟨hb, rfl⟩ := hr
  have hb : b = (l.length : Int) := hb
  rw [hb]; exact hk
def closeN (s : Bs) : Nat → Nat → Nat
 | 0, i => i
 | f + 1, i => if i + 1 < s.length ∧ ¬ (byt s i = 58 ∧ byt s (i + 1) = 93) then closeN s f (i + 1) else i
def closeF (s : Bs) (a : Nat) : Nat := closeN s s.length a
theorem closeN_ge (s : Bs) : ∀ f i, i ≤ closeN s f i
 | 0, i => Nat.le_refl _
 | f + 1, i => by
  rw [closeN]
  split
  ·have := closeN_ge s f (i + 1); omega
  ·exact Nat.le_refl _
def rangeN : Nat → Int → Set4 → Set4
 | 0, _, w => w
 | n + 1, c, w => rangeN n (c + 1) (putF w c)
def rangeSet (lo hi : Int) (w : Set4) : Set4 := rangeN (hi + 1 - lo).toNat lo w
def namedN (nm : Bs) : Nat → Int → Set4 → Set4
 | 0, _, w => w
 | n + 1, c, w => namedN nm n (c + 1) (if (namedF nm c).1 = true then putF w c else w)
def namedSet (nm : Bs) (w : Set4) : Set4 := namedN nm 256 0 w
def clsBody (rec : Set4 → Nat → Option (Set4 × Nat)) (s : Bs) (set : Set4) (a : Nat) : Option (Set4 × Nat) :=
 if s.length ≤ a then none
 else if (isc s a 91 && isc s (a + 1) 58) = true then
  if (namedF ((s.take (closeF s (a + 2))).drop (a + 2)) 0).2 = false ∨ s.length ≤ closeF s (a + 2) + 1 then none
  else rec (namedSet ((s.take (closeF s (a + 2))).drop (a + 2)) set) (closeF s (a + 2) + 2)
 else if a + 2 < s.length ∧ byt s (a + 1) = 45 ∧ byt s (a + 2) ≠ 93 then (if byt s (a + 2) < byt s a then none else rec (rangeSet (byt s a) (byt s (a + 2)) set) (a + 3))
 else rec (rangeSet (byt s a) (byt s a) set) (a + 1)
def classN (s : Bs) : Nat → Bool → Set4 → Nat → Option (Set4 × Nat)
 | 0, _, _, _ => none
 | f + 1, first, set, a => if first = true ∨ isc s a 93 = false then clsBody (classN s f false) s set a else some (set, a)
def z4 : Set4 := ((0 : Int), ((0 : Int), ((0 : Int), (0 : Int))))
def classF (s : Bs) (a : Nat) : Option (Set4 × Nat) :=
 match classN s (s.length + 2) true z4 (if isc s a 94 = true then a + 1 else a) with
 | none => none
 | some (set, b) => some (if isc s a 94 = true then complF set else set, b + 1)
theorem classN_le {s : Bs} : ∀ {f : Nat} {first : Bool} {set : Set4} {a : Nat} {set' : Set4} {b : Nat}, classN s f first set a = some (set', b) → a ≤ s.length → a ≤ b ∧ b < s.length
 | 0, _, _, _, _, _, h, _ => by simp [classN] at h
 | f + 1, first, set, a, set', b, h, hl => by
  rw [classN] at h
  split at h
  ·unfold clsBody at h
   split at h
   ·cases h
   rename_i h1
   have hge := closeN_ge s s.length (a + 2)
   split at h
   ·split at h
    ·cases h
    rename_i h2
    have hge : a + 2 ≤ closeF s (a + 2) := hge
    have := classN_le h (by omega)
    omega
   ·split at h
    ·split at h
     ·cases h
     have := classN_le h (by omega)
     omega
    ·have := classN_le h (by omega)
     omega
  ·rename_i h1
   cases h
   have h1 : isc s a 93 = true := by
    cases hh : isc s a 93 with
    | true => rfl
    | false => exact absurd (.inr hh) h1
   have := (isc_true.1 h1).1
   omega
theorem classF_le {s : Bs} {a : Nat} {w : Set4} {b : Nat} (h : classF s a = some (w, b)) (ha : a ≤ s.length) : a < b ∧ b ≤ s.length := by
 unfold classF at h
 split at h
 ·cases h
 rename_i set b' e
 cases h
 have h1 : (if isc s a 94 = true then a + 1 else a) ≤ s.length := by
  split
  ·rename_i h; have := (isc_true.1 h).1; omega
  ·exact ha
 have := classN_le e h1
 split at this <;> omega
def setNode (w : Set4) : Node := ((1 : Int), (w, ((0 : Int), ((0 : Int), []))))
def ClsPost (R : Option (Set4 × Nat)) (neg : Bool) (s : Bs) (d : Int) (l : List Node) (k : Int) (e : ref04_reader) : Prop := match R with
 | none => e.2.2.2.2 = 40
 | some (w, b) => k = (l.length : Int) ∧ e = (s, (((b + 1 : Nat) : Int), (d, (l ++ [setNode (if neg = true then complF w else w)], (0 : Int)))))
theorem slice_snoc {s : Bs} {a i : Nat} (h : a ≤ i) (hi : i < s.length) : (s.take i).drop a ++ (s.take (i + 1)).drop i = (s.take (i + 1)).drop a := by
 have e : s.take (i + 1) = s.take i ++ [s[i]] := by rw [List.take_append_getElem hi]
 have hl : (s.take i).length = i := by simp; omega
 rw [e, List.drop_append_of_le_length (by omega), List.drop_append_of_le_length (by omega)]
 have : List.drop i (s.take i) = [] := by rw [List.drop_eq_nil_iff]; omega
 rw [this]
 simp
end Go.VS
