/- Blobs and trees made of raw numbers: which they are. -/
import Derived.Test.YtbpbcfiodckhjaaDoorKSpDiff4
import Derived.Test.YtbpbcfiodckhjaaDoorKSpLn
set_option linter.unusedVariables false
set_option linter.unusedSimpArgs false
namespace Go.VS
variable {P : Pg}
abbrev Xm : List Bs := [([97] : List UInt8), ([98] : List UInt8), ([99] : List UInt8), ([97, 98] : List UInt8), ([98, 97] : List UInt8), ([] : List UInt8), ([97, 97] : List UInt8), ([98, 32, 97] : List UInt8), ([120, 43, 121] : List UInt8), ([92] : List UInt8)]
def QL (k : Int) : Bs := Xm.getD (G3 k 10).toNat []
theorem OG (k : Int) : (QL k).length ≤ 3 := by
 have hr := G4 (a := k) (n := 10) (by decide) (by decide)
 unfold QL
 generalize G3 k 10 = m at *
 have : m = 0 ∨ m = 1 ∨ m = 2 ∨ m = 3 ∨ m = 4 ∨ m = 5 ∨ m = 6 ∨ m = 7 ∨ m = 8 ∨ m = 9 := by omega
 rcases this with rfl | rfl | rfl | rfl | rfl | rfl | rfl | rfl | rfl | rfl <;> decide
def L6 (P : Pg) : Prop := ∀ k : Int, Fn P S0 Dm k fun (d : Bs) _ => d = QL k
theorem VT (h : Has P GV) (hM : Kx P) : L6 P := by
 intro k
 refine Qn h ?_
 unfold Ma
 refine hM.at (by decide) (by decide) ?_
 have hr := G4 (a := k) (n := 10) (by decide) (by decide)
 exact ⟨⟨by omega, by simp; omega⟩, by simp; omega, rfl⟩
def GC (raw : List Int) (fr kinds : Int) : Nat → Bs
 | 0 => []
 | k + 1 => (GC raw fr kinds k ++ QL (G3 (atF raw (fr + 1 + (k : Int))) kinds)) ++ [10]
theorem Ie (raw : List Int) (fr kinds : Int) : ∀ k, (GC raw fr kinds k).length ≤ 4 * k
 | 0 => Nat.le_refl _
 | k + 1 => by
  have h1 := Ie raw fr kinds k
  have h2 := OG (G3 (atF raw (fr + 1 + (k : Int))) kinds)
  rw [GC, List.length_append, List.length_append]
  simp only [List.length_cons, List.length_nil]
  omega
def Od (s : Bs) (z : Int) : Bool := cond (cond ((Int.tmod z (4 : Int)) == (0 : Int)) (decide (((List.length s : Nat) : Int) > (1 : Int))) false) (((UInt8.toNat (List.getD s (Int.toNat (IntKind.i64.wrap (((List.length s : Nat) : Int) - (2 : Int)))) 0) : Nat) : Int) != (10 : Int)) false
def Mj (raw : List Int) (fr mx kinds : Int) : Bs :=
 if Od (GC raw fr kinds (G3 (atF raw fr) (mx + 1)).toNat) (atF raw (fr + 90)) = true then (GC raw fr kinds (G3 (atF raw fr) (mx + 1)).toNat).take ((GC raw fr kinds (G3 (atF raw fr) (mx + 1)).toNat).length - 1) else GC raw fr kinds (G3 (atF raw fr) (mx + 1)).toNat
theorem T3 {raw : List Int} {fr mx kinds : Int} (h0 : 0 ≤ mx) (h1 : mx ≤ 100) : (Mj raw fr mx kinds).length ≤ 400 := by
 have hr := G4 (a := atF raw fr) (n := mx + 1) (by omega) (by omega)
 have h2 := Ie raw fr kinds (G3 (atF raw fr) (mx + 1)).toNat
 unfold Mj
 split
 ·rw [List.length_take]; omega
 ·omega
def L5 (P : Pg) : Prop := ∀ x : List Int × (Int × (Int × Int)), (0 ≤ x.2.1 ∧ x.2.1 ≤ 1000000) → (0 ≤ x.2.2.1 ∧ x.2.2.1 ≤ 100) → (1 ≤ x.2.2.2 ∧ x.2.2.2 ≤ 100000) → Fn P zS6 Cn x fun (d : Bs) _ => d = Mj x.1 x.2.1 x.2.2.1 x.2.2.2
theorem VQ (h : Has P GU) (hA : N6 P) (hM : Kx P) (hL : L6 P) : L5 P := by
 rintro ⟨raw, fr, mx, kinds⟩ ⟨f0, f1⟩ ⟨m0, m1⟩ ⟨k0, k1⟩
 dsimp only at f0 f1 m0 m1 k0 k1
 refine Qm h ?_
 unfold L9
 dsimp only
 rw [w64 (n := mx + 1) (by omega) (by omega), w64 (n := fr + 1) (by omega) (by omega), w64 (n := fr + 90) (by omega) (by omega)]
 refine hA.at f0 (hM.at (by omega) (by omega) ?_)
 unfold Mj
 have hr := G4 (a := atF raw fr) (n := mx + 1) (by omega) (by omega)
 generalize G3 (atF raw fr) (mx + 1) = m at hr ⊢
 refine Ar.mid (fun d => d = GC raw fr kinds m.toNat) ?_ fun d hd => ?_
 ·refine BU.of (fun q => (0 ≤ q.2 ∧ q.2 ≤ m) ∧ q.1 = GC raw fr kinds q.2.toNat) (fun q => (m - q.2).toNat) ⟨⟨Int.le_refl _, hr.1⟩, rfl⟩ ?_
  rintro ⟨s, i⟩ ⟨⟨i0, i1⟩, hs⟩
  dsimp only at i0 i1 hs ⊢
  have hsl := Ie raw fr kinds i.toNat
  rw [← hs] at hsl
  refine ⟨fun hi => ?_, fun hi => by have hi := of_decide_eq_false hi; rw [hs, show i = m by omega]⟩
  have hi := of_decide_eq_true hi
  have hnx : GC raw fr kinds (i.toNat + 1) = (s ++ QL (G3 (atF raw (fr + 1 + i)) kinds)) ++ [10] := by
   rw [GC, ← hs, show ((i.toNat : Nat) : Int) = i by omega]
  have hll := OG (G3 (atF raw (fr + 1 + i)) kinds)
  refine Ar.mid (fun d => d = GC raw fr kinds (i.toNat + 1)) ?_ fun d hd => ?_
  ·rw [w64 (by omega) (by omega)]
   refine hA.at (by omega) (hM.at k0 (by omega) ((hL _).to ?_))
   rintro (ln : Bs) _ hln
   have hln : ln = _ := hln
   subst hln
   refine ⟨by omega, by rw [List.length_append]; simp only [List.length_cons, List.length_nil]; omega, hnx.symm⟩
  ·rw [w64 (by omega) (by omega)]
   exact ⟨⟨⟨by omega, by omega⟩, by rw [hd, show (i + 1).toNat = i.toNat + 1 by omega]⟩, by omega⟩
 ·subst hd
  have hbl := Ie raw fr kinds m.toNat
  generalize GC raw fr kinds m.toNat = d at hbl ⊢
  refine hA.at (by omega) ⟨by decide, fun hc => ?_, ?_⟩
  ·rw [Bool.cond_eq_ite] at hc
   split at hc
   ·have h1 := of_decide_eq_true hc
    rw [w64 (by omega) (by omega)]
    omega
   ·cases hc
  ·refine Ar.mid (fun e => e = if Od d (atF raw (fr + 90)) = true then d.take (d.length - 1) else d) ⟨fun hc => ?_, fun hc => ?_⟩ fun _ h => h
   ·have h1 : 1 < d.length := by
     rw [Bool.cond_eq_ite] at hc
     split at hc
     ·rename_i h2
      rw [Bool.cond_eq_ite] at h2
      split at h2
      ·have := of_decide_eq_true h2; omega
      ·cases h2
     ·cases hc
    rw [w64 (by omega) (by omega)]
    refine ⟨⟨by omega, by omega⟩, ?_⟩
    have hc : Od d (atF raw (fr + 90)) = true := by unfold Od; exact hc
    rw [if_pos hc, show (((d.length : Nat) : Int) - 1).toNat = d.length - 1 by omega]
   ·have hc : Od d (atF raw (fr + 90)) = false := by unfold Od; exact hc
    rw [if_neg (by rw [hc]; exact Bool.false_ne_true)]
theorem Zk : ∀ (s acc : Bs), (lnN acc s).length ≤ s.length
 | [], acc => by rw [lnN]; exact Nat.le_refl _
 | b :: r, acc => by
  rw [lnN]
  split
  ·have := Zk r []; simp only [List.length_cons]; omega
  ·have := Zk r (acc ++ [b]); simp only [List.length_cons]; omega
theorem Zl {s : Bs} (h : s.length ≤ 4000) : FZ s = 0 := by
 have h1 : (lnF s).length ≤ s.length := Zk s []
 unfold FZ
 rw [if_neg (by omega)]
abbrev Jc : List Bs := [([97] : List UInt8), ([98, 47, 120] : List UInt8), ([98, 47, 121] : List UInt8), ([99, 32, 100] : List UInt8)]
def Vl (raw : List Int) (fr lines : Int) (i : Nat) : Option Aw := if atF raw (fr + (i : Int)) % 3 > 0 then some (Jc.getD i [], Mj raw (fr + 10 + 20 * (i : Int)) lines 4) else none
def Mp (raw : List Int) (fr lines : Int) (k : Nat) : List Aw := (List.range k).filterMap (Vl raw fr lines)
def DS (raw : List Int) (fr lines : Int) : List Aw := Mp raw fr lines 4
theorem T7 (raw : List Int) (fr lines : Int) (k : Nat) : Mp raw fr lines (k + 1) = Mp raw fr lines k ++ (Vl raw fr lines k).toList := by
 unfold Mp
 rw [List.range_succ, List.filterMap_append]
 cases h : Vl raw fr lines k with
 | none => simp [h]
 | some v => simp [h]
def Xq (l : List Aw) : Prop := ∃ q : Nat → Option Bs, (∀ i v, q i = some v → v.length ≤ 4000) ∧ l = (List.range 4).filterMap fun i => (q i).map fun v => (Jc.getD i [], v)
theorem Lt {raw : List Int} {fr lines : Int} (h0 : 0 ≤ lines) (h1 : lines ≤ 100) : Xq (DS raw fr lines) := by
 refine ⟨fun i => if atF raw (fr + (i : Int)) % 3 > 0 then some (Mj raw (fr + 10 + 20 * (i : Int)) lines 4) else none, fun i v hv => ?_, ?_⟩
 ·dsimp only at hv
  split at hv
  ·cases hv; have := T3 (raw := raw) (fr := fr + 10 + 20 * (i : Int)) (kinds := 4) h0 h1; omega
  ·cases hv
 ·unfold DS Mp
  congr 1
  funext i
  unfold Vl
  dsimp only
  split <;> rfl
theorem AbC {l : List Aw} (h : Xq l) : ∃ a b c d : Option Bs, (∀ v, a = some v ∨ b = some v ∨ c = some v ∨ d = some v → v.length ≤ 4000) ∧ l = (a.map fun v => (Jc.getD 0 [], v)).toList ++ ((b.map fun v => (Jc.getD 1 [], v)).toList ++ ((c.map fun v => (Jc.getD 2 [], v)).toList ++ (d.map fun v => (Jc.getD 3 [], v)).toList)) := by
 obtain ⟨q, hq, rfl⟩ := h
 refine ⟨q 0, q 1, q 2, q 3, fun v hv => ?_, ?_⟩
 ·rcases hv with h | h | h | h
  ·exact hq _ _ h
  ·exact hq _ _ h
  ·exact hq _ _ h
  ·exact hq _ _ h
 ·show (List.range 4).filterMap _ = _
  rw [show List.range 4 = [0, 1, 2, 3] from rfl]
  cases h0 : q 0 <;> cases h1 : q 1 <;> cases h2 : q 2 <;> cases h3 : q 3 <;> simp [h0, h1, h2, h3, List.filterMap]
theorem Aa0 {l : List Aw} (h : Xq l) : Eu l = 0 := by
 obtain ⟨a, b, c, d, hl, rfl⟩ := AbC h
 clear h
 have hf : ∀ v, a = some v ∨ b = some v ∨ c = some v ∨ d = some v → FZ v = 0 := fun v hv => Zl (hl v hv)
 clear hl
 cases a <;> cases b <;> cases c <;> cases d <;>
  (unfold Eu
   rw [if_neg (by simp), if_neg (by intro h; cases h), if_neg (by intro h; cases h), if_neg (by simp_all [List.all_cons])])
end Go.VS
