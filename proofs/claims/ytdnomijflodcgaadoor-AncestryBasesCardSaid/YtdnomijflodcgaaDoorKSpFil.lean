/- Blobs and trees made of raw numbers: which they are. -/
import Derived.Test.YtdnomijflodcgaaDoorKSpDiff3
import Derived.Test.YtdnomijflodcgaaDoorKSpLn
set_option linter.unusedVariables false
set_option linter.unusedSimpArgs false
namespace Go.VS
variable {P : Pg}
abbrev Ab0 : List Bs := [([97] : List UInt8), ([98] : List UInt8), ([99] : List UInt8), ([97, 98] : List UInt8), ([98, 97] : List UInt8), ([] : List UInt8), ([97, 97] : List UInt8), ([98, 32, 97] : List UInt8), ([120, 43, 121] : List UInt8), ([92] : List UInt8)]
def N2 (k : Int) : Bs := Ab0.getD (FB k 10).toNat []
theorem Nv (k : Int) : (N2 k).length ≤ 3 := by
 have hr := DV (a := k) (n := 10) (by decide) (by decide)
 unfold N2
 generalize FB k 10 = m at *
 have : m = 0 ∨ m = 1 ∨ m = 2 ∨ m = 3 ∨ m = 4 ∨ m = 5 ∨ m = 6 ∨ m = 7 ∨ m = 8 ∨ m = 9 := by omega
 rcases this with rfl | rfl | rfl | rfl | rfl | rfl | rfl | rfl | rfl | rfl <;> decide
def LM (P : Pg) : Prop := ∀ k : Int, Fn P AaB DD k fun (d : Bs) _ => d = N2 k
theorem Aao (h : Has P Iq) (hM : Iu P) : LM P := by
 intro k
 refine TZ h ?_
 unfold OV
 refine hM.at (by decide) (by decide) ?_
 have hr := DV (a := k) (n := 10) (by decide) (by decide)
 exact ⟨⟨by omega, by simp; omega⟩, by simp; omega, rfl⟩
def F5 (raw : List Int) (fr kinds : Int) : Nat → Bs
 | 0 => []
 | k + 1 => (F5 raw fr kinds k ++ N2 (FB (atF raw (fr + 1 + (k : Int))) kinds)) ++ [10]
theorem H4 (raw : List Int) (fr kinds : Int) : ∀ k, (F5 raw fr kinds k).length ≤ 4 * k
 | 0 => Nat.le_refl _
 | k + 1 => by
  have h1 := H4 raw fr kinds k
  have h2 := Nv (FB (atF raw (fr + 1 + (k : Int))) kinds)
  rw [F5, List.length_append, List.length_append]
  simp only [List.length_cons, List.length_nil]
  omega
def QZ (s : Bs) (z : Int) : Bool := cond (cond ((Int.tmod z (4 : Int)) == (0 : Int)) (decide (((List.length s : Nat) : Int) > (1 : Int))) false) (((UInt8.toNat (List.getD s (Int.toNat (IntKind.i64.wrap (((List.length s : Nat) : Int) - (2 : Int)))) 0) : Nat) : Int) != (10 : Int)) false
def LX (raw : List Int) (fr mx kinds : Int) : Bs :=
 if QZ (F5 raw fr kinds (FB (atF raw fr) (mx + 1)).toNat) (atF raw (fr + 90)) = true then (F5 raw fr kinds (FB (atF raw fr) (mx + 1)).toNat).take ((F5 raw fr kinds (FB (atF raw fr) (mx + 1)).toNat).length - 1) else F5 raw fr kinds (FB (atF raw fr) (mx + 1)).toNat
theorem XQ {raw : List Int} {fr mx kinds : Int} (h0 : 0 ≤ mx) (h1 : mx ≤ 100) : (LX raw fr mx kinds).length ≤ 400 := by
 have hr := DV (a := atF raw fr) (n := mx + 1) (by omega) (by omega)
 have h2 := H4 raw fr kinds (FB (atF raw fr) (mx + 1)).toNat
 unfold LX
 split
 ·rw [List.length_take]; omega
 ·omega
def OM (P : Pg) : Prop := ∀ x : List Int × (Int × (Int × Int)), (0 ≤ x.2.1 ∧ x.2.1 ≤ 1000000) → (0 ≤ x.2.2.1 ∧ x.2.2.1 ≤ 100) → (1 ≤ x.2.2.2 ∧ x.2.2.2 ≤ 100000) → Fn P zS9 Dg x fun (d : Bs) _ => d = LX x.1 x.2.1 x.2.2.1 x.2.2.2
theorem Aak (h : Has P Ip) (hA : KV P) (hM : Iu P) (hL : LM P) : OM P := by
 rintro ⟨raw, fr, mx, kinds⟩ ⟨f0, f1⟩ ⟨m0, m1⟩ ⟨k0, k1⟩
 dsimp only at f0 f1 m0 m1 k0 k1
 refine TY h ?_
 unfold OU
 dsimp only
 rw [w64 (n := mx + 1) (by omega) (by omega), w64 (n := fr + 1) (by omega) (by omega), w64 (n := fr + 90) (by omega) (by omega)]
 refine hA.at f0 (hM.at (by omega) (by omega) ?_)
 unfold LX
 have hr := DV (a := atF raw fr) (n := mx + 1) (by omega) (by omega)
 generalize FB (atF raw fr) (mx + 1) = m at hr ⊢
 refine Ai.mid (fun d => d = F5 raw fr kinds m.toNat) ?_ fun d hd => ?_
 ·refine Bl.of (fun q => (0 ≤ q.2 ∧ q.2 ≤ m) ∧ q.1 = F5 raw fr kinds q.2.toNat) (fun q => (m - q.2).toNat) ⟨⟨Int.le_refl _, hr.1⟩, rfl⟩ ?_
  rintro ⟨s, i⟩ ⟨⟨i0, i1⟩, hs⟩
  dsimp only at i0 i1 hs ⊢
  have hsl := H4 raw fr kinds i.toNat
  rw [← hs] at hsl
  refine ⟨fun hi => ?_, fun hi => by have hi := of_decide_eq_false hi; rw [hs, show i = m by omega]⟩
  have hi := of_decide_eq_true hi
  have hnx : F5 raw fr kinds (i.toNat + 1) = (s ++ N2 (FB (atF raw (fr + 1 + i)) kinds)) ++ [10] := by
   rw [F5, ← hs, show ((i.toNat : Nat) : Int) = i by omega]
  have hll := Nv (FB (atF raw (fr + 1 + i)) kinds)
  refine Ai.mid (fun d => d = F5 raw fr kinds (i.toNat + 1)) ?_ fun d hd => ?_
  ·rw [w64 (by omega) (by omega)]
   refine hA.at (by omega) (hM.at k0 (by omega) ((hL _).to ?_))
   rintro (ln : Bs) _ hln
   have hln : ln = _ := hln
   subst hln
   refine ⟨by omega, by rw [List.length_append]; simp only [List.length_cons, List.length_nil]; omega, hnx.symm⟩
  ·rw [w64 (by omega) (by omega)]
   exact ⟨⟨⟨by omega, by omega⟩, by rw [hd, show (i + 1).toNat = i.toNat + 1 by omega]⟩, by omega⟩
 ·subst hd
  have hbl := H4 raw fr kinds m.toNat
  generalize F5 raw fr kinds m.toNat = d at hbl ⊢
  refine hA.at (by omega) ⟨by decide, fun hc => ?_, ?_⟩
  ·rw [Bool.cond_eq_ite] at hc
   split at hc
   ·have h1 := of_decide_eq_true hc
    rw [w64 (by omega) (by omega)]
    omega
   ·cases hc
  ·refine Ai.mid (fun e => e = if QZ d (atF raw (fr + 90)) = true then d.take (d.length - 1) else d) ⟨fun hc => ?_, fun hc => ?_⟩ fun _ h => h
   ·have h1 : 1 < d.length := by
     rw [Bool.cond_eq_ite] at hc
     split at hc
     ·rename_i h2
      rw [Bool.cond_eq_ite] at h2
      split at h2
      ·have := of_decide_eq_true h2; omega
      ·cases h2
     ·cases hc
    rw [w64 (by omega) (by omega)]
    refine ⟨⟨by omega, by omega⟩, ?_⟩
    have hc : QZ d (atF raw (fr + 90)) = true := by unfold QZ; exact hc
    rw [if_pos hc, show (((d.length : Nat) : Int) - 1).toNat = d.length - 1 by omega]
   ·have hc : QZ d (atF raw (fr + 90)) = false := by unfold QZ; exact hc
    rw [if_neg (by rw [hc]; exact Bool.false_ne_true)]
theorem OH : ∀ (s acc : Bs), (lnN acc s).length ≤ s.length
 | [], acc => by rw [lnN]; exact Nat.le_refl _
 | b :: r, acc => by
  rw [lnN]
  split
  ·have := OH r []; simp only [List.length_cons]; omega
  ·have := OH r (acc ++ [b]); simp only [List.length_cons]; omega
theorem VO {s : Bs} (h : s.length ≤ 4000) : Jg s = 0 := by
 have h1 : (lnF s).length ≤ s.length := OH s []
 unfold Jg
 rw [if_neg (by omega)]
abbrev Bu : List Bs := [([97] : List UInt8), ([98, 47, 120] : List UInt8), ([98, 47, 121] : List UInt8), ([99, 32, 100] : List UInt8)]
def X0 (raw : List Int) (fr lines : Int) (i : Nat) : Option AA := if atF raw (fr + (i : Int)) % 3 > 0 then some (Bu.getD i [], LX raw (fr + 10 + 20 * (i : Int)) lines 4) else none
def Og (raw : List Int) (fr lines : Int) (k : Nat) : List AA := (List.range k).filterMap (X0 raw fr lines)
def GY (raw : List Int) (fr lines : Int) : List AA := Og raw fr lines 4
theorem X1 (raw : List Int) (fr lines : Int) (k : Nat) : Og raw fr lines (k + 1) = Og raw fr lines k ++ (X0 raw fr lines k).toList := by
 unfold Og
 rw [List.range_succ, List.filterMap_append]
 cases h : X0 raw fr lines k with
 | none => simp [h]
 | some v => simp [h]
def Ab8 (l : List AA) : Prop := ∃ q : Nat → Option Bs, (∀ i v, q i = some v → v.length ≤ 4000) ∧ l = (List.range 4).filterMap fun i => (q i).map fun v => (Bu.getD i [], v)
theorem TO {raw : List Int} {fr lines : Int} (h0 : 0 ≤ lines) (h1 : lines ≤ 100) : Ab8 (GY raw fr lines) := by
 refine ⟨fun i => if atF raw (fr + (i : Int)) % 3 > 0 then some (LX raw (fr + 10 + 20 * (i : Int)) lines 4) else none, fun i v hv => ?_, ?_⟩
 ·dsimp only at hv
  split at hv
  ·cases hv; have := XQ (raw := raw) (fr := fr + 10 + 20 * (i : Int)) (kinds := 4) h0 h1; omega
  ·cases hv
 ·unfold GY Og
  congr 1
  funext i
  unfold X0
  dsimp only
  split <;> rfl
theorem Vh {l : List AA} (h : Ab8 l) : ∃ a b c d : Option Bs, (∀ v, a = some v ∨ b = some v ∨ c = some v ∨ d = some v → v.length ≤ 4000) ∧ l = (a.map fun v => (Bu.getD 0 [], v)).toList ++ ((b.map fun v => (Bu.getD 1 [], v)).toList ++ ((c.map fun v => (Bu.getD 2 [], v)).toList ++ (d.map fun v => (Bu.getD 3 [], v)).toList)) := by
 obtain ⟨q, hq, rfl⟩ := h
 refine ⟨q 0, q 1, q 2, q 3, fun v hv => ?_, ?_⟩
 ·rcases hv with h | h | h | h
  ·exact hq _ _ h
  ·exact hq _ _ h
  ·exact hq _ _ h
  ·exact hq _ _ h
 ·show (List.range 4).filterMap _ = _
  rw [show List.range 4 = [0, 1, 2, 3] from rfl]
  cases h0 : q 0 <;> cases h1 : q 1 <;> cases h2 : q 2 <;> cases h3 : q 3 <;> simp [h0, h1, h2, h3, List.filterMap]
end Go.VS
