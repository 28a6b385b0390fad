/- Commands: plain words. -/
import Derived.Test.YtcaandgkdmidkaaDoorKSpDig
import Derived.Test.YtcaandgkdmidkaaDoorKSpFmt
import Derived.Test.YtcaandgkdmidkaaDoorKSpQuo
set_option linter.unusedVariables false
set_option linter.unusedSimpArgs false
namespace Go.VS
variable {P : Pg}
def HD (w : Bs) : Option Int := if (Gw (w, 0)).2.2 = true ∧ (Gw (w, 0)).2.1 = w.length then some (Gw (w, 0)).1 else none
def CV : List Bs → Option (List Int)
 | [] => some []
 | w :: l => (HD w).bind fun n => (CV l).map (n :: ·)
theorem IQ : ∀ (l : List Bs) (w : Bs), CV (l ++ [w]) = (CV l).bind fun ns => (HD w).map fun n => ns ++ [n]
 | [], w => by
  simp only [List.nil_append, CV, Option.map_some, Option.bind_some]
  cases HD w <;> rfl
 | v :: l, w => by
  simp only [List.cons_append, CV, IQ l w]
  cases HD v with
  | none => rfl
  | some n =>
   simp only [Option.bind_some]
   cases CV l with
   | none => rfl
   | some ns => cases HD w <;> rfl
theorem MG : ∀ (l m : List Bs), CV l = none → CV (l ++ m) = none
 | [], m, h => nomatch h
 | v :: l, m, h => by
  simp only [List.cons_append, CV] at h ⊢
  cases hv : HD v with
  | none => rfl
  | some n =>
   rw [hv] at h
   simp only [Option.bind_some, Option.map_eq_none_iff] at h ⊢
   exact MG l m h
theorem H9 : ∀ {l : List Bs} {ns : List Int}, CV l = some ns → ns.length = l.length
 | [], ns, h => by cases h; rfl
 | v :: l, ns, h => by
  simp only [CV] at h
  cases hv : HD v with
  | none => rw [hv] at h; cases h
  | some n =>
   rw [hv] at h
   cases hl : CV l with
   | none => rw [hl] at h; cases h
   | some ms =>
    rw [hl] at h
    cases h
    rw [List.length_cons, List.length_cons, H9 hl]
def Bc (b c : Bool) : List Nat := 1 :: ((if b then [2] else []) ++ if c then [3] else [])
def D5 (f : Al) (ns : List Int) (t : Bs) : Command :=
 (f.2.1, (ns.getD 0 0, ((if f.2.2.2.1 then ns.getD 1 0 else 0), ((if f.2.2.2.2.1 then ns.getD (if f.2.2.2.1 then 2 else 1) 0 else 0), (f.2.2.1, t)))))
def F0 (f : Al) (ws : List Bs) (t : Bs) : Command × Bool :=
 if ws.length = (Bc f.2.2.2.1 f.2.2.2.2.1).length then (match CV ws with | some ns => (D5 f ns t, true) | none => (Da, false)) else (Da, false)
def EG (f : Al) (ws : List Bs) : Command × Bool :=
 if f.2.2.2.2.2 = true then (if ws = [] then (Da, false) else F0 f (ws.take (ws.length - 1)) (ws.getD (ws.length - 1) [])) else F0 f ws []
def AL : List Al := [([108, 111, 103], (1, (false, (false, (false, false))))), ([115, 104, 111, 119], (2, (false, (false, (false, false))))), ([100, 105, 102, 102], (3, (false, (true, (true, true))))), ([99, 111, 109, 98, 105, 110, 101, 100], (4, (false, (false, (true, true))))), ([99, 99], (4, (true, (false, (true, true))))), ([108, 105, 116, 101, 114, 97, 108], (5, (false, (false, (false, true))))), ([114, 101, 103, 101, 120], (6, (false, (false, (false, true))))), ([108, 105, 110, 101, 115], (7, (false, (true, (true, true))))), ([98, 108, 97, 109, 101], (8, (false, (false, (false, true))))), ([98, 97, 115, 101, 115], (9, (false, (true, (false, false)))))]
def inC (n : Int) : Prop := 0 ≤ n ∧ n ≤ 2147483647
instance (n : Int) : Decidable (inC n) := by unfold inC; infer_instance
def Cy (o : Nat) (c : Command) : Int := if o = 1 then c.2.1 else if o = 2 then c.2.2.1 else c.2.2.2.1
def okC (f : Al) (c : Command) : Prop :=
 (∀ o ∈ Bc f.2.2.2.1 f.2.2.2.2.1, inC (Cy o c)) ∧ (f.2.2.2.1 = false → c.2.2.1 = 0) ∧ (f.2.2.2.2.1 = false → c.2.2.2.1 = 0) ∧ (f.2.2.2.2.2 = false → c.2.2.2.2.2 = [])
instance (f : Al) (c : Command) : Decidable (okC f c) := by unfold okC; infer_instance
def Dk (f : Al) (c : Command) (k : Nat) : Bs := f.1 ++ ((Bc f.2.2.2.1 f.2.2.2.2.1).take k).flatMap fun o => 32 :: B5 (Cy o c)
def Gu (f : Al) (c : Command) : Bs := Dk f c 3 ++ (if f.2.2.2.2.2 = true then 32 :: Ar c.2.2.2.2.2 else [])
theorem LF (b c : Bool) : (Bc b c).length ≤ 3 := by cases b <;> cases c <;> decide
def Bo (c : Command) (f : Al) : Bool := f.2.1 == c.1 && f.2.2.1 == c.2.2.2.2.1
def DN (c : Command) : Bs × Int := match AL.find? (Bo c) with
 | some f => if okC f c then (Gu f c, 0) else ([], 2)
 | none => ([], 2)
def LO (P : Pg) : Prop := ∀ x : Al × List Bs, x.2.length ≤ 1000000 → (∀ s ∈ x.2, s.length ≤ 1000000) → Fn P zS2 AO x fun (d : Command × Bool) _ => d = EG x.1 x.2
end Go.VS
