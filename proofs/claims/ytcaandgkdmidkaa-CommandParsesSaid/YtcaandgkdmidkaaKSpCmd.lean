/- Commands: plain words. -/
import Derived.Test.YtcaandgkdmidkaaKSpDig
import Derived.Test.YtcaandgkdmidkaaKSpFmt
import Derived.Test.YtcaandgkdmidkaaKSpQuo
set_option linter.unusedVariables false
set_option linter.unusedSimpArgs false
namespace Go.VS
variable {P : Pg}
def Hv (w : Bs) : Option Int := if (Dm (w, 0)).2.2 = true ∧ (Dm (w, 0)).2.1 = w.length then some (Dm (w, 0)).1 else none
def C6 : List Bs → Option (List Int)
 | [] => some []
 | w :: l => (Hv w).bind fun n => (C6 l).map (n :: ·)
theorem Jk : ∀ (l : List Bs) (w : Bs), C6 (l ++ [w]) = (C6 l).bind fun ns => (Hv w).map fun n => ns ++ [n]
 | [], w => by
  simp only [List.nil_append, C6, Option.map_some, Option.bind_some]
  cases Hv w <;> rfl
 | v :: l, w => by
  simp only [List.cons_append, C6, Jk l w]
  cases Hv v with
  | none => rfl
  | some n =>
   simp only [Option.bind_some]
   cases C6 l with
   | none => rfl
   | some ns => cases Hv w <;> rfl
theorem Nd : ∀ (l m : List Bs), C6 l = none → C6 (l ++ m) = none
 | [], m, h => nomatch h
 | v :: l, m, h => by
  simp only [List.cons_append, C6] at h ⊢
  cases hv : Hv v with
  | none => rfl
  | some n =>
   rw [hv] at h
   simp only [Option.bind_some, Option.map_eq_none_iff] at h ⊢
   exact Nd l m h
theorem Iz : ∀ {l : List Bs} {ns : List Int}, C6 l = some ns → ns.length = l.length
 | [], ns, h => by cases h; rfl
 | v :: l, ns, h => by
  simp only [C6] at h
  cases hv : Hv v with
  | none => rw [hv] at h; cases h
  | some n =>
   rw [hv] at h
   cases hl : C6 l with
   | none => rw [hl] at h; cases h
   | some ms =>
    rw [hl] at h
    cases h
    rw [List.length_cons, List.length_cons, Iz hl]
def Bg (b c : Bool) : List Nat := 1 :: ((if b then [2] else []) ++ if c then [3] else [])
def El (f : Ao) (ns : List Int) (t : Bs) : Command :=
 (f.2.1, (ns.getD 0 0, ((if f.2.2.2.1 then ns.getD 1 0 else 0), ((if f.2.2.2.2.1 then ns.getD (if f.2.2.2.1 then 2 else 1) 0 else 0), (f.2.2.1, t)))))
def Gj (f : Ao) (ws : List Bs) (t : Bs) : Command × Bool :=
 if ws.length = (Bg f.2.2.2.1 f.2.2.2.2.1).length then (match C6 ws with | some ns => (El f ns t, true) | none => (Dg, false)) else (Dg, false)
def EW (f : Ao) (ws : List Bs) : Command × Bool :=
 if f.2.2.2.2.2 = true then (if ws = [] then (Dg, false) else Gj f (ws.take (ws.length - 1)) (ws.getD (ws.length - 1) [])) else Gj f ws []
def AN : List Ao := [([108, 111, 103], (1, (false, (false, (false, false))))), ([115, 104, 111, 119], (2, (false, (false, (false, false))))), ([100, 105, 102, 102], (3, (false, (true, (true, true))))), ([99, 111, 109, 98, 105, 110, 101, 100], (4, (false, (false, (true, true))))), ([99, 99], (4, (true, (false, (true, true))))), ([108, 105, 116, 101, 114, 97, 108], (5, (false, (false, (false, true))))), ([114, 101, 103, 101, 120], (6, (false, (false, (false, true))))), ([108, 105, 110, 101, 115], (7, (false, (true, (true, true))))), ([98, 108, 97, 109, 101], (8, (false, (false, (false, true))))), ([98, 97, 115, 101, 115], (9, (false, (true, (false, false)))))]
def inC (n : Int) : Prop := 0 ≤ n ∧ n ≤ 2147483647
instance (n : Int) : Decidable (inC n) := by unfold inC; infer_instance
def CB (o : Nat) (c : Command) : Int := if o = 1 then c.2.1 else if o = 2 then c.2.2.1 else c.2.2.2.1
def okC (f : Ao) (c : Command) : Prop :=
 (∀ o ∈ Bg f.2.2.2.1 f.2.2.2.2.1, inC (CB o c)) ∧ (f.2.2.2.1 = false → c.2.2.1 = 0) ∧ (f.2.2.2.2.1 = false → c.2.2.2.1 = 0) ∧ (f.2.2.2.2.2 = false → c.2.2.2.2.2 = [])
instance (f : Ao) (c : Command) : Decidable (okC f c) := by unfold okC; infer_instance
def OK (f : Ao) (c : Command) (k : Nat) : Bs := f.1 ++ ((Bg f.2.2.2.1 f.2.2.2.2.1).take k).flatMap fun o => 32 :: B6 (CB o c)
def Kb (f : Ao) (c : Command) : Bs := OK f c 3 ++ (if f.2.2.2.2.2 = true then 32 :: Av c.2.2.2.2.2 else [])
theorem S0 (b c : Bool) : (Bg b c).length ≤ 3 := by cases b <;> cases c <;> decide
theorem VA (f : Ao) (c : Command) (j : Nat) : (OK f c j).length ≤ f.1.length + 33 := by
 have h : ∀ l : List Nat, (l.flatMap fun o => 32 :: B6 (CB o c)).length ≤ 11 * l.length := by
  intro l
  induction l with
  | nil => simp
  | cons o l ih =>
   have := Gg (CB o c)
   rw [List.flatMap_cons, List.length_append, List.length_cons, List.length_cons]
   omega
 have h1 := h ((Bg f.2.2.2.1 f.2.2.2.2.1).take j)
 have h2 := S0 f.2.2.2.1 f.2.2.2.2.1
 unfold OK
 rw [List.length_append]
 rw [List.length_take] at h1
 omega
theorem Jp (s : Bs) : (Av s).length ≤ 4 * s.length + 2 := by
 have esc : ∀ l : Bs, (l.flatMap BK).length ≤ 4 * l.length := by
  intro l
  induction l with
  | nil => simp
  | cons b l ih =>
   have hb : (BK b).length ≤ 4 := by
    unfold BK
    repeat' split
    all_goals simp
   rw [List.flatMap_cons, List.length_append, List.length_cons]
   omega
 unfold Av
 split
 ·omega
 ·have := esc s
  simp only [List.length_cons, List.length_append, List.length_nil]
  omega
def Cf (c : Command) (f : Ao) : Bool := f.2.1 == c.1 && f.2.2.1 == c.2.2.2.2.1
def FH (c : Command) : Bs × Int := match AN.find? (Cf c) with
 | some f => if okC f c then (Kb f c, 0) else ([], 2)
 | none => ([], 2)
def Mg (P : Pg) : Prop := ∀ x : Ao × List Bs, x.2.length ≤ 1000000 → (∀ s ∈ x.2, s.length ≤ 1000000) → Fn P zS8 AP x fun (d : Command × Bool) _ => d = EW x.1 x.2
end Go.VS
