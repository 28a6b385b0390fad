/- Ranges read back. -/
import Derived.Test.YtbandpkgjepklaaDoorKSpBack
set_option linter.unusedVariables false
set_option linter.unusedSimpArgs false
namespace Go.VS
variable {P : Program}
theorem rgK_back {w after : Bs} {m c st : Int} (h : (if c > 0 then m - 1 else m) = st) (hw : frF (st, c) = w) : rgK (w ++ after) 0 m c (w.length : Nat) = (st, (c, (((w.length : Nat) : Int), true))) := by
 unfold rgK
 rw [h, hw, if_pos]
 rw [show ((w.length : Nat) : Int).toNat = w.length by omega, List.take_left]
 rfl
theorem dec0 : Lib.decDigits 0 = [48] := by
 rw [Lib.decDigits]
 rfl
theorem rg_back {a b : Int} (ha : 0 ≤ a) (hb : 0 ≤ b) (ha1 : a < 1073741824) (hb1 : b < 1073741824) {r : Bs} (hr : isD r 0 = false) (hr2 : isc r 0 44 = false) :
  frF (a, b) ≠ [] ∧ rgG (frF (a, b) ++ r, 0) = (a, (b, ((((frF (a, b)).length : Nat) : Int), true))) := by
 have hd1 := dec_ok (a.toNat + 1) a.toNat (by omega)
 have hd2 := dec_ok (a.toNat + 2) (a.toNat + 1) (by omega)
 have hd3 := dec_ok (b.toNat + 1) b.toNat (by omega)
 have e1 : fmtF a = Lib.decDigits a.toNat := fmt_dec ha (by omega)
 have e2 : fmtF (a + 1) = Lib.decDigits (a.toNat + 1) := by
  rw [fmt_dec (by omega) (by omega), show (a + 1).toNat = a.toNat + 1 by omega]
 have e3 : fmtF b = Lib.decDigits b.toNat := fmt_dec hb (by omega)
 by_cases h0 : b = 0
 ·subst h0
  have hw : frF (a, 0) = Lib.decDigits a.toNat ++ [44, 48] := by
   unfold frF
   rw [if_neg (by dsimp only; omega), if_pos rfl, e1]
  refine ⟨by rw [hw]; simp, ?_⟩
  generalize hwg : frF (a, 0) = w at hw ⊢
  have s1 : w ++ r = [] ++ (Lib.decDigits a.toNat ++ ([44, 48] ++ r)) := by rw [hw]; simp
  have s2 : w ++ r = (Lib.decDigits a.toNat ++ [44]) ++ (Lib.decDigits 0 ++ r) := by rw [hw, dec0]; simp
  have n1 : numG (w ++ r, 0) = (a, (((Lib.decDigits a.toNat).length : Nat) : Int), true) := by
   have := num_back [] ([44, 48] ++ r) a.toNat (by omega) rfl
   rw [s1]
   refine this.trans ?_
   rw [show ((a.toNat : Nat) : Int) = a by omega]
   simp
  have n2 : numG (w ++ r, (((Lib.decDigits a.toNat).length : Nat) : Int) + 1) = (0, ((w.length : Nat) : Int), true) := by
   have := num_back (Lib.decDigits a.toNat ++ [44]) r 0 (by omega) hr
   rw [s2, show (((Lib.decDigits a.toNat).length : Nat) : Int) + 1 = (((Lib.decDigits a.toNat ++ [44]).length : Nat) : Int) by simp]
   refine this.trans ?_
   rw [hw, dec0]
   simp
   omega
  unfold rgG
  dsimp only
  rw [n1]
  dsimp only
  rw [if_neg (by simp), n2]
  dsimp only
  have hi : isc (w ++ r) (((Lib.decDigits a.toNat).length : Nat) : Int).toNat 44 = true := by
   rw [show ((((Lib.decDigits a.toNat).length : Nat) : Int)).toNat = (Lib.decDigits a.toNat).length by omega, s1, List.nil_append, isc_app]
   rfl
  rw [if_pos hi, if_neg (by simp)]
  exact rgK_back (by simp) hwg
 by_cases h1 : b = 1
 ·subst h1
  have hw : frF (a, 1) = Lib.decDigits (a.toNat + 1) := by
   unfold frF
   rw [if_neg (by dsimp only; omega), if_neg (by dsimp only; omega), if_pos rfl, e2]
  refine ⟨by rw [hw]; exact hd2.2.2.1, ?_⟩
  generalize hwg : frF (a, 1) = w at hw ⊢
  have n1 : numG (w ++ r, 0) = (a + 1, ((w.length : Nat) : Int), true) := by
   have := num_back [] r (a.toNat + 1) (by omega) hr
   rw [List.nil_append, ← hw] at this
   refine this.trans ?_
   rw [show ((a.toNat + 1 : Nat) : Int) = a + 1 by omega]
   simp
  unfold rgG
  dsimp only
  rw [n1]
  dsimp only
  rw [if_neg (by simp), show ((w.length : Nat) : Int).toNat = w.length by omega, isc_app, hr2, if_neg (by simp)]
  exact rgK_back (by simp) hwg
 ·have hw : frF (a, b) = Lib.decDigits (a.toNat + 1) ++ [44] ++ Lib.decDigits b.toNat := by
   unfold frF
   rw [if_neg (by dsimp only; omega), if_neg h0, if_neg h1, e2, e3]
  refine ⟨by rw [hw]; simp, ?_⟩
  generalize hwg : frF (a, b) = w at hw ⊢
  have s1 : w ++ r = [] ++ (Lib.decDigits (a.toNat + 1) ++ (44 :: (Lib.decDigits b.toNat ++ r))) := by rw [hw]; simp
  have s2 : w ++ r = (Lib.decDigits (a.toNat + 1) ++ [44]) ++ (Lib.decDigits b.toNat ++ r) := by rw [hw]; simp
  have n1 : numG (w ++ r, 0) = (a + 1, (((Lib.decDigits (a.toNat + 1)).length : Nat) : Int), true) := by
   have := num_back [] (44 :: (Lib.decDigits b.toNat ++ r)) (a.toNat + 1) (by omega) (by unfold isD; rw [byt_cons]; simp)
   rw [s1]
   refine this.trans ?_
   rw [show ((a.toNat + 1 : Nat) : Int) = a + 1 by omega]
   simp
  have n2 : numG (w ++ r, (((Lib.decDigits (a.toNat + 1)).length : Nat) : Int) + 1) = (b, ((w.length : Nat) : Int), true) := by
   have := num_back (Lib.decDigits (a.toNat + 1) ++ [44]) r b.toNat (by omega) hr
   rw [s2, show (((Lib.decDigits (a.toNat + 1)).length : Nat) : Int) + 1 = (((Lib.decDigits (a.toNat + 1) ++ [44]).length : Nat) : Int) by simp]
   refine this.trans ?_
   rw [show ((b.toNat : Nat) : Int) = b by omega, hw]
   simp
   omega
  unfold rgG
  dsimp only
  rw [n1]
  dsimp only
  rw [if_neg (by simp), n2]
  dsimp only
  have hi : isc (w ++ r) (((Lib.decDigits (a.toNat + 1)).length : Nat) : Int).toNat 44 = true := by
   rw [show ((((Lib.decDigits (a.toNat + 1)).length : Nat) : Int)).toNat = (Lib.decDigits (a.toNat + 1)).length by omega, s1, List.nil_append, isc_app]
   unfold isc
   rw [byt_cons]
   simp
  rw [if_pos hi, if_neg (by simp)]
  exact rgK_back (by rw [if_pos (by omega)]; omega) hwg
theorem sp_ScanRangeReads (h : Has P F_law01_ScanRangeReads) (hA : Sp_awake01 P) (hR : Sp_Range P) (hM : Sp_Mod P) (hF : Sp_FormatRange P) (x : Int × (Int × Bs)) : Fn P "mergelens/mergelenslaw01.ScanRangeReads" S_law01_ScanRangeReads x fun (d : Bool) _ => d = true := by
 obtain ⟨n, m, t⟩ := x
 refine fn_law01_ScanRangeReads h ?_
 unfold W_law01_ScanRangeReads
 dsimp only
 refine hM.at (by omega) (by omega) (hM.at (by omega) (by omega) ?_)
 have r1 := modF_range (a := n) (n := 1073741824) (by omega) (by omega)
 have r2 := modF_range (a := m) (n := 1073741824) (by omega) (by omega)
 have ht0 : ((UInt8.toNat (List.getD t (Int.toNat 0) 0) : Nat) : Int) = byt t 0 := rfl
 rw [ht0]
 refine ⟨fun h1 _ => ⟨by omega, of_decide_eq_true h1⟩, fun _ h1 _ => ⟨by omega, of_decide_eq_true h1⟩, fun _ h1 _ => ⟨by omega, of_decide_eq_true h1⟩, ?_⟩
 refine JoinW.mid (fun r => isD r 0 = false ∧ isc r 0 44 = false ∧ r.length ≤ 40) ⟨fun _ => by decide, fun hc => ?_⟩ ?_
 ·by_cases h1 : ((List.length t : Nat) : Int) > 40
  ·simp [h1] at hc
  by_cases h2 : ((List.length t : Nat) : Int) > 0
  ·have hp : 0 < t.length := by omega
   simp [h1] at hc
   have hc := hc hp
   unfold isD isc
   refine ⟨?_, ?_, by omega⟩
   ·by_cases h3 : 48 ≤ byt t 0
    ·have := hc.1 h3
     have h4 : ¬ byt t 0 ≤ 57 := by omega
     simp [h4]
    ·simp [h3]
   ·simp [hc.2]
  ·have hp : ¬ 0 < t.length := by omega
   unfold isD isc
   simp [hp]
   omega
 rintro r ⟨hr, hr2, hrl⟩
 refine (hF _).to ?_
 rintro (d : Bs) _ hd
 have hdl : d.length ≤ 21 := by
  rw [show d = frF _ from hd]
  exact fr_len _
 obtain ⟨b1, b2⟩ := rg_back r1.1 r2.1 r1.2 r2.2 hr hr2
 have hd : d = frF (modF n 1073741824, modF m 1073741824) := hd
 rw [← hd] at b1 b2
 refine ⟨by omega, ?_⟩
 refine (hR (d ++ r, 0) (by dsimp only; rw [List.length_append]; omega)).to ?_
 rintro (q : Int × (Int × (Int × Bool))) _ hq
 have hq := hq.trans b2
 subst hq
 dsimp only
 have hne : (d == ([] : List UInt8)) = false := by
  cases hdd : d with
  | nil => exact absurd hdd b1
  | cons _ _ => rfl
 rw [hne]
 simp only [beq_self_eq_true, cond_true, Bool.not_false]
 exact JoinW.of ⟨fun _ => hA.at rfl, fun hc => absurd hc (by decide), trivial⟩
end Go.VS
