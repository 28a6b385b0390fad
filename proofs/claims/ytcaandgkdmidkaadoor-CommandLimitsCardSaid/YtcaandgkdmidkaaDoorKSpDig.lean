/- Numbers as the program reads them. -/
import Derived.Test.YtcaandgkdmidkaaDoorKSpNb
import Derived.Test.YtcaandgkdmidkaaDoorKSpBase
import Derived.Test.YtcaandgkdmidkaaDoorKGf0
set_option linter.unusedVariables false
set_option linter.unusedSimpArgs false
namespace Go.VS
variable {P : Pg}
def LM (P : Pg) : Prop := ∀ x : Bs × Int, 0 ≤ x.2 → Fn P zS3 BL x fun (d : Bool) _ => d = isD x.1 x.2.toNat
theorem Vt (h : Has P EV) : LM P := by
 rintro ⟨s, a⟩ ha
 dsimp only at ha ⊢
 refine Nf h ?_
 unfold Jg
 dsimp only
 have hba : ((UInt8.toNat (List.getD s (Int.toNat a) 0) : Nat) : Int) = byt s a.toNat := rfl
 rw [hba]
 refine ⟨fun hc => ⟨ha, of_decide_eq_true hc⟩, fun hc => ?_, ?_⟩
 ·rw [Bool.cond_eq_ite] at hc
  split at hc
  ·rename_i h1; exact ⟨ha, of_decide_eq_true h1⟩
  ·cases hc
 ·unfold isD
  by_cases h1 : a < (s.length : Int)
  ·have h2 : a.toNat < s.length := by omega
   simp [h1, h2]
  ·have h2 : ¬ a.toNat < s.length := by omega
   simp [h1, h2]
def Gw (x : Bs × Int) : Int × (Int × Bool) := if x.2 < 0 then (0, (0, false)) else XN (P4 x.1 x.2.toNat)
theorem U8 {s : Bs} {a : Nat} (h : isD s a = false) : P4 s a = none := by
 unfold P4
 split
 ·rw [JD, h, if_neg (by simp), if_pos rfl]
 ·rfl
def Gl (P : Pg) : Prop := ∀ x : Bs × Int, x.1.length ≤ 140737488351232 → Fn P "mergelens/scan.Number" Cf x fun d _ => d = Gw x
theorem TQ (h : Has P Eo) (hD : LM P) : Gl P := by
 rintro ⟨s, a⟩ hl
 dsimp only at hl
 refine Mf h ?_
 unfold Ir Gw
 dsimp only
 refine Ao.mid (fun d => 0 ≤ a → d = isD s a.toNat) ⟨fun hc => ?_, fun hc => ?_, trivial⟩ ?_
 ·have := of_decide_eq_false hc
  refine (hD (s, a) (by dsimp only; omega)).to ?_
  rintro (d : Bool) _ hd _
  exact hd
 ·have := of_decide_eq_true hc
  intro h0
  omega
 intro d hd
 refine ⟨fun hc => ?_, fun hc => ?_⟩
 ·by_cases h0 : a < 0
  ·rw [if_pos h0]
  ·rw [if_neg h0, U8]
   ·rfl
   ·rw [← hd (by omega)]
    simpa [h0] using hc
 have h0 : 0 ≤ a := by
  by_cases h0 : a < 0
  ·simp [h0] at hc
  ·omega
 have hd := hd h0
 have hda : isD s a.toNat = true := by
  rw [← hd]
  cases d with
  | true => rfl
  | false => simp at hc
 rw [if_neg (by omega)]
 have hlt : a.toNat < s.length := by
  simp only [isD, Bool.and_eq_true, decide_eq_true_eq] at hda
  exact hda.1
 refine Ao.mid (fun d => 0 ≤ d.1 ∧ a < d.2 ∧ d.2 ≤ s.length ∧ P4 s a.toNat = if d.1 > 2147483647 ∨ byt s a.toNat = 48 ∧ d.2 > a + 1 then none else some (d.1, d.2.toNat)) ?_ ?_
 ·refine Dm.of (fun d => a ≤ d.2 ∧ d.2 ≤ s.length ∧ 0 ≤ d.1 ∧ d.1 ≤ 2147483648 ∧ ∃ f, s.length + 1 - d.2.toNat ≤ f ∧ P4 s a.toNat = if d.1 > 2147483647 ∨ byt s a.toNat = 48 ∧ d.2 > a + 1 then none else JD s a.toNat f d.1 d.2.toNat) (fun d => (s.length - d.2).toNat) ?_ ?_
  ·dsimp only
   refine ⟨Int.le_refl _, by omega, by omega, by omega, s.length + 1, by omega, ?_⟩
   unfold P4
   rw [if_pos (by omega), if_neg (by omega)]
  ·rintro ⟨n, i⟩ ⟨i0, i1, n0, n1, f, hf, e⟩
   dsimp only at i0 i1 n0 n1 hf e ⊢
   refine (hD (s, i) (by dsimp only; omega)).to ?_
   rintro (d : Bool) _ hd
   dsimp only at hd
   cases f with
   | zero => omega
   | succ f =>
   rw [JD] at e
   have hb := Gq s i.toNat
   have hbi : ((UInt8.toNat (List.getD s (Int.toNat i) 0) : Nat) : Int) = byt s i.toNat := rfl
   rw [hbi]
   refine ⟨fun hc => Ao.of ?_, fun hc => ?_⟩
   ·rw [hc] at hd
    rw [← hd, if_pos rfl] at e
    have hd := hd.symm
    simp only [isD, Bool.and_eq_true, decide_eq_true_eq] at hd
    have ew : IntKind.u8.wrap (byt s i.toNat - 48) = byt s i.toNat - 48 := wu8 (by omega) (by omega)
    rw [ew, w64 (n := byt s i.toNat - 48) (by omega) (by omega), w64 (n := 10 * n) (by omega) (by omega), w64 (n := 10 * n + (byt s i.toNat - 48)) (by omega) (by omega), w64 (n := i + 1) (by omega) (by omega)]
    refine ⟨⟨by omega, by omega⟩, ⟨by omega, by omega, ?_, ?_, f, by omega, ?_⟩, by omega⟩
    ·split <;> omega
    ·split <;> omega
    ·rw [e]
     by_cases g1 : n > 2147483647 ∨ byt s a.toNat = 48 ∧ i > a + 1
     ·rw [if_pos g1, if_pos ?_]
      rcases g1 with g1 | g1
      ·left; split <;> omega
      ·right; exact ⟨g1.1, by omega⟩
     ·rw [if_neg g1]
      by_cases g2 : i.toNat > a.toNat ∧ byt s a.toNat = 48
      ·rw [if_pos g2, if_pos (.inr ⟨g2.2, by omega⟩)]
      ·rw [if_neg g2]
       by_cases g3 : 10 * n + (byt s i.toNat - 48) > 2147483647
       ·rw [if_pos g3, if_pos (.inl (by split <;> omega))]
       ·have e3 : ¬ 2147483648 < 10 * n + (byt s i.toNat - 48) := by omega
        rw [if_neg g3, if_neg e3, if_neg (by omega), show (i + 1).toNat = i.toNat + 1 by omega]
   ·rw [hc] at hd
    have hnd : ¬ isD s i.toNat = true := by rw [← hd]; simp
    rw [if_neg hnd] at e
    have hia : i ≠ a := fun hia => by
     rw [hia, hda] at hd
     cases hd
    refine ⟨n0, by omega, i1, ?_⟩
    rw [e, if_neg (show ¬ i.toNat = a.toNat by omega)]
 ·rintro ⟨n, i⟩ ⟨n0, hi, hil, e⟩
  dsimp only at n0 hi hil e ⊢
  have hba : ((UInt8.toNat (List.getD s (Int.toNat a) 0) : Nat) : Int) = byt s a.toNat := rfl
  rw [hba, w64 (n := a + 1) (by omega) (by omega), e]
  have hcc : (cond (decide (n > 2147483647)) true (cond (byt s a.toNat == 48) (decide (i > a + 1)) false)) = decide (n > 2147483647 ∨ byt s a.toNat = 48 ∧ i > a + 1) := by
   by_cases g1 : n > 2147483647
   ·simp [g1]
   ·by_cases g2 : byt s a.toNat = 48
    ·simp [g1, g2]
    ·simp [g1, g2]
  rw [hcc]
  refine ⟨fun _ => ⟨h0, by omega⟩, fun hc => ?_, fun hc => ?_⟩
  ·rw [if_pos (of_decide_eq_true hc)]; rfl
  ·rw [if_neg (of_decide_eq_false hc)]
   show _ = (n, ((i.toNat : Int), true))
   rw [show (i.toNat : Int) = i by omega]
end Go.VS
