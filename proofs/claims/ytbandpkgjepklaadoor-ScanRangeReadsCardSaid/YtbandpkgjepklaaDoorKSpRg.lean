/- Ranges read. -/
import Derived.Test.YtbandpkgjepklaaDoorKSpFmt
set_option linter.unusedVariables false
set_option linter.unusedSimpArgs false
namespace Go.VS
variable {P : Program}
def rgK (s : Bs) (a m c e : Int) : Int × (Int × (Int × Bool)) :=
 if frF ((if c > 0 then m - 1 else m), c) = List.drop a.toNat (List.take e.toNat s) then ((if c > 0 then m - 1 else m), (c, (e, true))) else (0, (0, (0, false)))
def rgG (x : Bs × Int) : Int × (Int × (Int × Bool)) :=
 if (numG x).2.2 = false then (0, (0, (0, false)))
 else if isc x.1 (numG x).2.1.toNat 44 = true then (if (numG (x.1, (numG x).2.1 + 1)).2.2 = false then (0, (0, (0, false))) else rgK x.1 x.2 (numG x).1 (numG (x.1, (numG x).2.1 + 1)).1 (numG (x.1, (numG x).2.1 + 1)).2.1)
 else rgK x.1 x.2 (numG x).1 1 (numG x).2.1
theorem numG_le {x : Bs × Int} (h : (numG x).2.2 = true) : 0 ≤ x.2 ∧ 0 ≤ (numG x).1 ∧ (numG x).1 ≤ 2147483647 ∧ x.2 < (numG x).2.1 ∧ (numG x).2.1 ≤ x.1.length := by
 obtain ⟨s, a⟩ := x
 unfold numG at h ⊢
 dsimp only at h ⊢
 by_cases h0 : a < 0
 ·rw [if_pos h0] at h; cases h
 rw [if_neg h0] at h ⊢
 cases hn : numF s a.toNat with
 | none => rw [hn] at h; cases h
 | some r =>
  obtain ⟨m, j⟩ := r
  have := numF_le hn
  simp only [numX]
  omega
def Sp_Range (P : Program) : Prop := ∀ x : Bs × Int, x.1.length ≤ 140737488351232 → Fn P "mergelens/scan.Range" S_scan_Range x fun d _ => d = rgG x
theorem sp_Range (h : Has P F_scan_Range) (hN : Sp_Number P) (hF : Sp_FormatRange P) : Sp_Range P := by
 rintro ⟨s, a⟩ hl
 dsimp only at hl
 refine fn_scan_Range h ?_
 unfold W_scan_Range
 dsimp only
 refine (hN (s, a) hl).to ?_
 rintro (d : Int × (Int × Bool)) _ hd
 unfold rgG
 dsimp only
 rw [← hd]
 refine ⟨fun hc => ?_, fun hc => ?_⟩
 ·rw [if_pos (by simpa using hc)]
 have hok : d.2.2 = true := by simpa using hc
 have hb := numG_le (x := (s, a)) (hd ▸ hok)
 rw [← hd] at hb
 dsimp only at hb
 rw [if_neg (by simp [hok])]
 have hbi : ((UInt8.toNat (List.getD s (Int.toNat d.2.1) 0) : Nat) : Int) = byt s d.2.1.toNat := rfl
 have hcd : (cond (decide (d.2.1 < (s.length : Int))) (byt s d.2.1.toNat == 44) false) = isc s d.2.1.toNat 44 := by
  unfold isc
  by_cases h1 : d.2.1 < (s.length : Int)
  ·have h2 : d.2.1.toNat < s.length := by omega
   simp [h1, h2]
  ·have h2 : ¬ d.2.1.toNat < s.length := by omega
   simp [h1, h2]
 rw [hbi, hcd]
 refine ⟨fun h1 => ⟨by omega, of_decide_eq_true h1⟩, ?_⟩
 refine JoinW.mid (fun q => a ≤ q.2.2.2.2.1 ∧ q.2.2.2.2.1 ≤ s.length ∧ rgK s a d.1 q.2.2.2.2.2 q.2.2.2.2.1 = if isc s d.2.1.toNat 44 = true then (if (numG (s, d.2.1 + 1)).2.2 = false then (0, (0, (0, false))) else rgK s a d.1 (numG (s, d.2.1 + 1)).1 (numG (s, d.2.1 + 1)).2.1) else rgK s a d.1 1 d.2.1) ⟨fun hc => ?_, fun hc => ?_⟩ ?_
 ·rw [w64 (by omega) (by omega), if_pos hc]
  refine (hN (s, d.2.1 + 1) hl).to ?_
  rintro (q : Int × (Int × Bool)) _ hq
  rw [← hq]
  refine ⟨fun hc => ?_, fun hc => ?_⟩
  ·rw [if_pos (by simpa using hc)]
  ·have hok2 : q.2.2 = true := by simpa using hc
   have hb2 := numG_le (x := (s, d.2.1 + 1)) (hq ▸ hok2)
   rw [← hq] at hb2
   dsimp only at hb2 ⊢
   rw [if_neg (by simp [hok2])]
   exact ⟨by omega, by omega, rfl⟩
 ·rw [if_neg (by simp [hc])]
  exact ⟨by dsimp only; omega, by dsimp only; omega, rfl⟩
 rintro ⟨q1, q2, q3, q4, e, c⟩ ⟨he0, he1, hk⟩
 dsimp only at he0 he1 hk ⊢
 rw [← hk]
 unfold rgK
 refine JoinW.mid (fun m => m = if c > 0 then d.1 - 1 else d.1) ⟨fun hc => ?_, fun hc => ?_⟩ ?_
 ·rw [w64 (by omega) (by omega), if_pos (of_decide_eq_true hc)]
 ·rw [if_neg (of_decide_eq_false hc)]
 rintro m hm
 rw [← hm]
 refine JoinW.mid (fun b => b = !(frF (m, c) == List.drop a.toNat (List.take e.toNat s))) ⟨⟨by omega, by omega, by omega⟩, ?_, trivial⟩ ?_
 ·refine (hF _).to ?_
  rintro (w : Bs) _ rfl
  rfl
 rintro b rfl
 refine ⟨fun hc => ?_, fun hc => ?_⟩
 ·rw [if_neg (by simpa using hc)]
 ·rw [if_pos (by simpa using hc)]
end Go.VS
