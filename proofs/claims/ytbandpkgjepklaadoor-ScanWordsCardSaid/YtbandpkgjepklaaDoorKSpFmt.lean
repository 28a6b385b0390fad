/- Numbers and ranges: as they are written, as they are read. -/
import Derived.Test.YtbandpkgjepklaaDoorKSpScan
import Derived.Lib.ItoaNum
set_option linter.unusedVariables false
set_option linter.unusedSimpArgs false
namespace Go.VS
variable {P : Program}
def fmtF (n : Int) : Bs := if n < 0 ∨ n > 2147483647 then [] else Lib.decDigits n.toNat
theorem dec_len : ∀ k u : Nat, u < 10 ^ (k + 1) → (Lib.decDigits u).length ≤ k + 1
 | 0, u, h => by
  rw [Lib.decDigits]
  have h1 : u < 10 := by simpa using h
  simp [h1]
 | k + 1, u, h => by
  rw [Lib.decDigits]
  split
  ·simp
  ·have h2 : u / 10 < 10 ^ (k + 1) := by
    rw [Nat.pow_succ] at h
    omega
   have := dec_len k (u / 10) h2
   rw [List.length_append]
   simp only [List.length_cons, List.length_nil]
   omega
theorem fmt_len (n : Int) : (fmtF n).length ≤ 10 := by
 unfold fmtF
 split
 ·simp
 ·exact dec_len 9 n.toNat (by omega)
def Sp_Itoa (P : Program) : Prop := ∀ n : Int, 0 ≤ n → n ≤ 2147483647 → Fn P "strconv.Itoa" S_strconv_Itoa n fun (d : Bs) _ => d = Lib.decDigits n.toNat
def Sp_Format (P : Program) : Prop := ∀ x : Int, Fn P "mergelens/scan.Format" S_scan_Format x fun (d : Bs) _ => d = fmtF x
theorem sp_Format (h : Has P F_scan_Format) (hI : Sp_Itoa P) : Sp_Format P := by
 intro x
 refine fn_scan_Format h ?_
 unfold W_scan_Format fmtF
 dsimp only
 refine ⟨fun hc => ?_, fun hc => ?_⟩
 ·rw [if_pos (by have := cor.1 hc; omega)]
 ·have := corf.1 hc
  rw [if_neg (by omega)]
  exact hI x (by omega) (by omega)
def Sp_digit (P : Program) : Prop := ∀ x : Bs × Int, 0 ≤ x.2 → Fn P "mergelens/scan.digit" S_scan_digit x fun (d : Bool) _ => d = isD x.1 x.2.toNat
theorem sp_digit (h : Has P F_scan_digit) : Sp_digit P := by
 rintro ⟨s, a⟩ ha
 dsimp only at ha ⊢
 refine fn_scan_digit h ?_
 unfold W_scan_digit
 dsimp only
 have hba : ((UInt8.toNat (List.getD s (Int.toNat a) 0) : Nat) : Int) = byt s a.toNat := rfl
 rw [hba]
 refine ⟨fun hc => ⟨ha, of_decide_eq_true hc⟩, fun hc => ?_, ?_⟩
 ·rw [Bool.cond_eq_ite] at hc
  split at hc
  ·rename_i h1; exact ⟨ha, of_decide_eq_true h1⟩
  ·cases hc
 ·unfold isD
  by_cases h1 : a < (s.length : Int)
  ·have h2 : a.toNat < s.length := by omega
   simp [h1, h2]
  ·have h2 : ¬ a.toNat < s.length := by omega
   simp [h1, h2]
def numG (x : Bs × Int) : Int × (Int × Bool) := if x.2 < 0 then (0, (0, false)) else numX (numF x.1 x.2.toNat)
theorem num_none {s : Bs} {a : Nat} (h : isD s a = false) : numF s a = none := by
 unfold numF
 split
 ·rw [numN, h, if_neg (by simp), if_pos rfl]
 ·rfl
def Sp_Number (P : Program) : Prop := ∀ x : Bs × Int, x.1.length ≤ 140737488351232 → Fn P "mergelens/scan.Number" S_scan_Number x fun d _ => d = numG x
theorem sp_Number (h : Has P F_scan_Number) (hD : Sp_digit P) : Sp_Number P := by
 rintro ⟨s, a⟩ hl
 dsimp only at hl
 refine fn_scan_Number h ?_
 unfold W_scan_Number numG
 dsimp only
 refine JoinW.mid (fun d => 0 ≤ a → d = isD s a.toNat) ⟨fun hc => ?_, fun hc => ?_, trivial⟩ ?_
 ·have := of_decide_eq_false hc
  refine (hD (s, a) (by dsimp only; omega)).to ?_
  rintro (d : Bool) _ hd _
  exact hd
 ·have := of_decide_eq_true hc
  intro h0
  omega
 intro d hd
 refine ⟨fun hc => ?_, fun hc => ?_⟩
 ·by_cases h0 : a < 0
  ·rw [if_pos h0]
  ·rw [if_neg h0, num_none]
   ·rfl
   ·rw [← hd (by omega)]
    simpa [h0] using hc
 have h0 : 0 ≤ a := by
  by_cases h0 : a < 0
  ·simp [h0] at hc
  ·omega
 have hd := hd h0
 have hda : isD s a.toNat = true := by
  rw [← hd]
  cases d with
  | true => rfl
  | false => simp at hc
 rw [if_neg (by omega)]
 have hlt : a.toNat < s.length := by
  simp only [isD, Bool.and_eq_true, decide_eq_true_eq] at hda
  exact hda.1
 refine JoinW.mid (fun d => 0 ≤ d.1 ∧ a < d.2 ∧ d.2 ≤ s.length ∧ numF s a.toNat = if d.1 > 2147483647 ∨ byt s a.toNat = 48 ∧ d.2 > a + 1 then none else some (d.1, d.2.toNat)) ?_ ?_
 ·refine LoopW.of (fun d => a ≤ d.2 ∧ d.2 ≤ s.length ∧ 0 ≤ d.1 ∧ d.1 ≤ 2147483648 ∧ ∃ f, s.length + 1 - d.2.toNat ≤ f ∧ numF s a.toNat = if d.1 > 2147483647 ∨ byt s a.toNat = 48 ∧ d.2 > a + 1 then none else numN s a.toNat f d.1 d.2.toNat) (fun d => (s.length - d.2).toNat) ?_ ?_
  ·dsimp only
   refine ⟨Int.le_refl _, by omega, by omega, by omega, s.length + 1, by omega, ?_⟩
   unfold numF
   rw [if_pos (by omega), if_neg (by omega)]
  ·rintro ⟨n, i⟩ ⟨i0, i1, n0, n1, f, hf, e⟩
   dsimp only at i0 i1 n0 n1 hf e ⊢
   refine (hD (s, i) (by dsimp only; omega)).to ?_
   rintro (d : Bool) _ hd
   dsimp only at hd
   cases f with
   | zero => omega
   | succ f =>
   rw [numN] at e
   have hb := byt_range s i.toNat
   have hbi : ((UInt8.toNat (List.getD s (Int.toNat i) 0) : Nat) : Int) = byt s i.toNat := rfl
   rw [hbi]
   refine ⟨fun hc => JoinW.of ?_, fun hc => ?_⟩
   ·rw [hc] at hd
    rw [← hd, if_pos rfl] at e
    have hd := hd.symm
    simp only [isD, Bool.and_eq_true, decide_eq_true_eq] at hd
    have ew : IntKind.u8.wrap (byt s i.toNat - 48) = byt s i.toNat - 48 := wu8 (by omega) (by omega)
    rw [ew, w64 (n := byt s i.toNat - 48) (by omega) (by omega), w64 (n := 10 * n) (by omega) (by omega), w64 (n := 10 * n + (byt s i.toNat - 48)) (by omega) (by omega), w64 (n := i + 1) (by omega) (by omega)]
    refine ⟨⟨by omega, by omega⟩, ⟨by omega, by omega, ?_, ?_, f, by omega, ?_⟩, by omega⟩
    ·split <;> omega
    ·split <;> omega
    ·rw [e]
     by_cases g1 : n > 2147483647 ∨ byt s a.toNat = 48 ∧ i > a + 1
     ·rw [if_pos g1, if_pos ?_]
      rcases g1 with g1 | g1
      ·left; split <;> omega
      ·right; exact ⟨g1.1, by omega⟩
     ·rw [if_neg g1]
      by_cases g2 : i.toNat > a.toNat ∧ byt s a.toNat = 48
      ·rw [if_pos g2, if_pos (.inr ⟨g2.2, by omega⟩)]
      ·rw [if_neg g2]
       by_cases g3 : 10 * n + (byt s i.toNat - 48) > 2147483647
       ·rw [if_pos g3, if_pos (.inl (by split <;> omega))]
       ·have e3 : ¬ 2147483648 < 10 * n + (byt s i.toNat - 48) := by omega
        rw [if_neg g3, if_neg e3, if_neg (by omega), show (i + 1).toNat = i.toNat + 1 by omega]
   ·rw [hc] at hd
    have hnd : ¬ isD s i.toNat = true := by rw [← hd]; simp
    rw [if_neg hnd] at e
    have hia : i ≠ a := fun hia => by
     rw [hia, hda] at hd
     cases hd
    refine ⟨n0, by omega, i1, ?_⟩
    rw [e, if_neg (show ¬ i.toNat = a.toNat by omega)]
 ·rintro ⟨n, i⟩ ⟨n0, hi, hil, e⟩
  dsimp only at n0 hi hil e ⊢
  have hba : ((UInt8.toNat (List.getD s (Int.toNat a) 0) : Nat) : Int) = byt s a.toNat := rfl
  rw [hba, w64 (n := a + 1) (by omega) (by omega), e]
  have hcc : (cond (decide (n > 2147483647)) true (cond (byt s a.toNat == 48) (decide (i > a + 1)) false)) = decide (n > 2147483647 ∨ byt s a.toNat = 48 ∧ i > a + 1) := by
   by_cases g1 : n > 2147483647
   ·simp [g1]
   ·by_cases g2 : byt s a.toNat = 48
    ·simp [g1, g2]
    ·simp [g1, g2]
  rw [hcc]
  refine ⟨fun _ => ⟨h0, by omega⟩, fun hc => ?_, fun hc => ?_⟩
  ·rw [if_pos (of_decide_eq_true hc)]; rfl
  ·rw [if_neg (of_decide_eq_false hc)]
   show _ = (n, ((i.toNat : Int), true))
   rw [show (i.toNat : Int) = i by omega]
def frF (x : Int × Int) : Bs := if x.1 < 0 ∨ x.2 < 0 ∨ x.1 > 2147483647 ∨ x.2 > 2147483647 - x.1 then [] else if x.2 = 0 then fmtF x.1 ++ [44, 48] else if x.2 = 1 then fmtF (x.1 + 1) else fmtF (x.1 + 1) ++ [44] ++ fmtF x.2
theorem cond4 {a b : Int} : (cond (cond (cond (decide (a < 0)) true (decide (b < 0))) true (decide (a > 2147483647))) true (decide (b > IntKind.i64.wrap (2147483647 - a)))) = decide (a < 0 ∨ b < 0 ∨ a > 2147483647 ∨ b > 2147483647 - a) := by
 by_cases h1 : a < 0
 ·simp [h1]
 by_cases h2 : b < 0
 ·simp [h1, h2]
 by_cases h3 : a > 2147483647
 ·simp [h1, h2, h3]
 rw [w64 (by omega) (by omega)]
 simp [h1, h2, h3]
def Sp_FormatRange (P : Program) : Prop := ∀ x : Int × Int, Fn P "mergelens/scan.FormatRange" S_scan_FormatRange x fun (d : Bs) _ => d = frF x
theorem sp_FormatRange (h : Has P F_scan_FormatRange) (hF : Sp_Format P) : Sp_FormatRange P := by
 rintro ⟨a, b⟩
 refine fn_scan_FormatRange h ?_
 unfold W_scan_FormatRange frF
 dsimp only
 rw [cond4]
 refine ⟨fun hc => ?_, fun hc => ?_⟩
 ·rw [if_pos (of_decide_eq_true hc)]
 have hc := of_decide_eq_false hc
 rw [if_neg hc]
 refine JoinW.of ⟨fun h0 => ?_, fun h0 => ⟨fun h1 => ?_, fun h1 => ?_⟩⟩
 ·refine (hF a).to ?_
  rintro (d : Bs) _ rfl
  have := fmt_len a
  refine ⟨by simp; omega, ?_⟩
  rw [if_pos (by simpa using h0)]
 ·have h0 : ¬ b = 0 := by simpa using h0
  rw [w64 (by omega) (by omega)]
  refine (hF (a + 1)).to ?_
  rintro (d : Bs) _ rfl
  rw [if_neg h0, if_pos (by simpa using h1)]
 ·have h0 : ¬ b = 0 := by simpa using h0
  have h1 : ¬ b = 1 := by simpa using h1
  rw [w64 (by omega) (by omega)]
  refine (hF (a + 1)).to ?_
  rintro (d : Bs) _ rfl
  have l1 := fmt_len (a + 1)
  refine ⟨by simp; omega, ?_⟩
  refine (hF b).to ?_
  rintro (d : Bs) _ rfl
  have l2 := fmt_len b
  refine ⟨by simp; omega, ?_⟩
  rw [if_neg h0, if_neg h1]
end Go.VS
