/- Literals: what a pattern of escaped bytes is read as. -/
import Derived.Test.YtbandpkgjepklaaKSpPrs
set_option linter.unusedVariables false
set_option linter.unusedSimpArgs false
namespace Go.VS
def AbH (c : Int) : Prop := c = 40 ∨ c = 41 ∨ c = 91 ∨ c = 123 ∨ c = 42 ∨ c = 43 ∨ c = 63 ∨ c = 124 ∨ c = 46 ∨ c = 94 ∨ c = 36 ∨ c = 92
instance (c : Int) : Decidable (AbH c) := by unfold AbH; infer_instance
def Acf (b : UInt8) : Bs := if AbH ((b.toNat : Nat) : Int) then [92, b] else [b]
def AbQ (s : Bs) : Bs := s.flatMap Acf
def Aj8 (b : UInt8) : Node := setNode (EG z4 ((b.toNat : Nat) : Int))
def Aj6 (s : Bs) : List Node := if s.length = 0 then [HM 0] else if s.length = 1 then s.map Aj8 else s.map Aj8 ++ [EV 4 ((List.range s.length).map fun i => ((i : Nat) : Int))]
theorem AcE (b : UInt8) : 1 ≤ (Acf b).length ∧ (Acf b).length ≤ 2 := by
 unfold Acf
 split <;> simp
theorem Aci : ∀ s : Bs, s.length ≤ (AbQ s).length ∧ (AbQ s).length ≤ 2 * s.length
 | [] => by simp [AbQ]
 | b :: s => by
  have h1 := AcE b
  have h2 := Aci s
  unfold AbQ at h2 ⊢
  rw [List.flatMap_cons, List.length_append, List.length_cons]
  omega
theorem Akg (b : UInt8) (s : Bs) : AbQ (b :: s) = Acf b ++ AbQ s := by
 unfold AbQ
 rw [List.flatMap_cons]
theorem Aki (p q : Bs) (c : UInt8) : byt (p ++ c :: q) p.length = ((c.toNat : Nat) : Int) := by
 unfold byt
 simp [List.getD_eq_getElem?_getD]
theorem Aks (p s : Bs) : byt (p ++ AbQ s) p.length = 0 ∨ byt (p ++ AbQ s) p.length = 92 ∨ ¬ AbH (byt (p ++ AbQ s) p.length) := by
 cases s with
 | nil =>
  left
  unfold byt AbQ
  simp [List.getD_eq_getElem?_getD]
 | cons b s =>
  rw [Akg]
  unfold Acf
  split
  ·right; left
   exact Aki p _ 92
  ·rename_i h
   right; right
   rw [show p ++ ([b] ++ AbQ s) = p ++ b :: AbQ s from rfl, Aki]
   exact h
theorem Aky (p s : Bs) : D5 (p ++ AbQ s) p.length = none := by
 have h := Aks p s
 unfold AbH at h
 unfold D5
 rw [if_neg (by omega), if_neg (by omega), if_neg (by omega), if_neg (by omega)]
theorem Akx (rec : Int → Nat → List Node → Eh) (p : Bs) (b : UInt8) (s : Bs) (d : Int) (l : List Node) :
  CI rec (p ++ AbQ (b :: s)) d p.length l = .ok ((l.length : Int), ((p ++ Acf b).length, l ++ [Aj8 b])) := by
 have hat : El rec (p ++ AbQ (b :: s)) d p.length l = .ok ((l.length : Int), ((p ++ Acf b).length, l ++ [Aj8 b])) := by
  unfold El
  dsimp only
  rw [Akg]
  unfold Acf
  split
  ·rw [show p ++ ([92, b] ++ AbQ s) = p ++ 92 :: (b :: AbQ s) from rfl, Aki]
   rw [if_neg (by decide), if_neg (by decide), if_neg (by decide), if_neg (by decide), if_neg (by decide), if_neg (by decide), if_pos (by decide), if_neg (by simp)]
   have e : byt (p ++ 92 :: b :: AbQ s) (p.length + 1) = ((b.toNat : Nat) : Int) := by
    rw [show p ++ 92 :: b :: AbQ s = (p ++ [92]) ++ b :: AbQ s by simp, show p.length + 1 = (p ++ [92]).length by simp]
    exact Aki _ _ b
   rw [e]
   simp [Aj8]
  ·rename_i h
   rw [show p ++ ([b] ++ AbQ s) = p ++ b :: AbQ s from rfl, Aki]
   unfold AbH at h
   rw [if_neg (by omega), if_neg (by omega), if_neg (by omega), if_neg (by omega), if_neg (by omega), if_neg (by omega), if_neg (by omega)]
   simp [Aj8]
 unfold CI
 rw [hat]
 dsimp only
 have hq : D5 (p ++ AbQ (b :: s)) (p ++ Acf b).length = none := by
  rw [Akg, ← List.append_assoc]
  exact Aky _ _
 split
 ·rfl
 ·rw [hq]
theorem Akv (p : Bs) (b : UInt8) (s : Bs) : p.length < (p ++ AbQ (b :: s)).length ∧ byt (p ++ AbQ (b :: s)) p.length ≠ 124 ∧ byt (p ++ AbQ (b :: s)) p.length ≠ 41 := by
 have h1 := Aci (b :: s)
 have h2 := Aks p (b :: s)
 refine ⟨by rw [List.length_append]; simp at h1; omega, ?_, ?_⟩
 ·intro h
  rw [h] at h2
  rcases h2 with h2 | h2 | h2
  ·cases h2
  ·cases h2
  ·exact h2 (by decide)
 ·intro h
  rw [h] at h2
  rcases h2 with h2 | h2 | h2
  ·cases h2
  ·cases h2
  ·exact h2 (by decide)
def Aka (n k : Nat) : List Int := (List.range' n k).map fun i => ((i : Nat) : Int)
theorem Akt (rec : Int → Nat → List Node → Eh) (d : Int) : ∀ (s p : Bs) (f : Nat) (kids : List Int) (l : List Node), s.length < f →
  ET rec (p ++ AbQ s) d f kids p.length l = .ok (kids ++ Aka l.length s.length, ((p ++ AbQ s).length, l ++ s.map Aj8))
 | _, _, 0, _, _, h => by omega
 | [], p, f + 1, kids, l, h => by
  rw [ET, if_neg (by simp [AbQ])]
  simp [AbQ, Aka]
 | b :: s, p, f + 1, kids, l, h => by
  rw [ET, if_pos (Akv p b s), Akx]
  dsimp only
  have e : p ++ AbQ (b :: s) = (p ++ Acf b) ++ AbQ s := by rw [Akg, List.append_assoc]
  rw [e, Akt rec d s (p ++ Acf b) f _ _ (by simp at h; omega)]
  have e2 : Aka l.length (b :: s).length = (l.length : Int) :: Aka (l ++ [Aj8 b]).length s.length := by
   unfold Aka
   rw [List.length_cons, List.range'_succ, List.map_cons]
   simp
  rw [e2]
  simp
theorem Akw (s : Bs) (hs : (AbQ s).length ≤ 256) : D4 (AbQ s) = (Aj6 s, 0) := by
 have h0 := Aci s
 have hl := Akt (CP (AbQ s) 50) 0 s [] ((AbQ s).length + 1) [] [] (by omega)
 simp only [List.nil_append, List.length_nil] at hl
 have hk : (Aka 0 s.length).length = s.length := by simp [Aka]
 have hpt : ∃ k, CP (AbQ s) 51 0 0 [] = .ok (k, ((AbQ s).length, Aj6 s)) := by
  show ∃ k, Rt (CP (AbQ s) 50) (AbQ s) 0 0 [] = _
  unfold Rt
  have hal : Pf (CP (AbQ s) 50) (AbQ s) 0 0 [] = .ok ((C5 4 (Aka 0 s.length) (AbQ s).length (s.map Aj8)).1, ((AbQ s).length, Aj6 s)) := by
   unfold Pf
   rw [hl]
   dsimp only
   unfold C5 Aj6
   rw [hk]
   split
   ·rename_i h
    have : s = [] := List.length_eq_zero_iff.1 h
    subst this
    rfl
   ·split
    ·rfl
    ·have : Aka 0 s.length = (List.range s.length).map fun i => ((i : Nat) : Int) := by
      unfold Aka
      rw [List.range_eq_range']
     rw [this]
  rw [hal]
  dsimp only
  rw [Db, if_neg (fun x => by have := (Bi.1 x).1; omega)]
  dsimp only
  exact ⟨_, by unfold C5; rw [if_neg (by simp), if_pos (by simp)]⟩
 obtain ⟨k, hk⟩ := hpt
 unfold D4
 rw [if_neg (by omega), hk]
 dsimp only
 rw [if_neg (by omega)]
end Go.VS
