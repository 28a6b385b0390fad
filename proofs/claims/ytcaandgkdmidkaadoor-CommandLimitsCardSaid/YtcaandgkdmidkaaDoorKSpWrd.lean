/- Words: the program's Unquote and Words. -/
import Derived.Test.YtcaandgkdmidkaaDoorKSpUnq
set_option linter.unusedVariables false
set_option linter.unusedSimpArgs false
namespace Go.VS
variable {P : Pg}
def plN (s : Bs) : Nat → Nat → Nat
 | 0, i => i
 | f + 1, i => if i < s.length ∧ C5 (byt s i) = true then plN s f (i + 1) else i
def plE (s : Bs) (i : Nat) : Nat := plN s (s.length + 1) i
def DG (s : Bs) (a j : Int) : Bs := List.drop a.toNat (List.take j.toNat s)
def noW : Bs × (Int × Bool) := ([], (0, false))
def FL (x : Bs × Int) : Bs × (Int × Bool) :=
 if x.2 < 0 ∨ x.2 ≥ x.1.length then noW
 else if byt x.1 x.2.toNat = 34 then (match qdF x.1 (x.2.toNat + 1) with | none => noW | some (acc, j) => if Ar (strOf acc) = DG x.1 x.2 j then (strOf acc, ((j : Int), true)) else noW)
 else if plE x.1 x.2.toNat = x.2.toNat then noW else (DG x.1 x.2 (plE x.1 x.2.toNat : Nat), ((plE x.1 x.2.toNat : Int), true))
theorem T5 (l : List Int) : (strOf l).length = l.length := by simp [strOf]
theorem V2 (s : Bs) (a j : Int) : (DG s a j).length ≤ s.length := by
 unfold DG
 rw [List.length_drop, List.length_take]
 omega
theorem NB {s : Bs} {a i : Int} (h : ∀ j : Nat, a.toNat ≤ j → j < i.toNat → C5 (byt s j) = true) : (DG s a i).all CE = true := by
 rw [List.all_eq_true]
 unfold DG
 intro b hb
 obtain ⟨k, hk, rfl⟩ := List.mem_iff_getElem.1 hb
 have hk2 := hk
 rw [List.length_drop, List.length_take] at hk2
 have := h (a.toNat + k) (by omega) (by omega)
 unfold byt at this
 rw [getD_eq (show a.toNat + k < s.length by omega)] at this
 rw [List.getElem_drop, List.getElem_take]
 exact this
theorem Lf {w : Bs} (h : w.all CE = true) : (Ar w == w) = !w.isEmpty := by
 unfold Ar
 cases w with
 | nil => rfl
 | cons b w => rw [h]; simp
def Ot (P : Pg) : Prop := ∀ x : Rd, 0 ≤ x.2 → x.2 ≤ x.1.length → x.1.length ≤ 17592186044416 → Fn P Ud A6 x fun (d : Bs × Bool) (e : Rd) => (d.2 = true → FL x = (d.1, (e.2, true)) ∧ e.1 = x.1 ∧ x.2 < e.2 ∧ e.2 ≤ x.1.length) ∧ (d.2 = false → FL x = noW)
theorem Wy (h : Has P Cu) (hQ : LK P) (hD : Kj P) (hP : LQ P) : Ot P := by
 rintro ⟨s, a⟩ h0 h1 hl
 dsimp only at h0 h1 hl
 refine Ii h ?_
 unfold Fj
 dsimp only
 refine ⟨fun hc => ⟨h0, of_decide_eq_true hc⟩, ?_⟩
 have hba : ((UInt8.toNat (List.getD s (Int.toNat a) 0) : Nat) : Int) = byt s a.toNat := rfl
 have hcd : (cond (decide (a < (s.length : Int))) (byt s a.toNat == 34) false) = isc s a.toNat 34 := by
  unfold isc
  by_cases h1 : a < (s.length : Int)
  ·have h2 : a.toNat < s.length := by omega
   simp [h1, h2]
  ·have h2 : ¬ a.toNat < s.length := by omega
   simp [h1, h2]
 rw [hba, hcd]
 refine Ao.mid (fun d => d.2.2.2.1 = s ∧ a ≤ d.2.2.2.2 ∧ d.2.2.2.2 ≤ s.length ∧ d.2.2.1.length ≤ s.length ∧ (if Ar d.2.2.1 = DG s a d.2.2.2.2 then FL (s, a) = (d.2.2.1, (d.2.2.2.2, true)) ∧ a < d.2.2.2.2 else FL (s, a) = noW)) ⟨fun hc => ?_, fun hc => ?_⟩ ?_
 ·have hc := PU.1 hc
  rw [w64 (by omega) (by omega)]
  refine (hD (s, a + 1) (by dsimp only; omega) (by dsimp only; omega) hl).to ?_
  rintro (⟨w, ok⟩ : Bs × Bool) (⟨s2, j⟩ : Rd) ⟨hy, hn⟩
  dsimp only at hy hn ⊢
  rw [show (a + 1).toNat = a.toNat + 1 by omega] at hy hn
  have hu : FL (s, a) = (match qdF s (a.toNat + 1) with | none => noW | some (acc, j) => if Ar (strOf acc) = DG s a j then (strOf acc, ((j : Int), true)) else noW) := by
   unfold FL
   dsimp only
   rw [if_neg (by omega), if_pos hc.2]
  cases ok with
  | false =>
   refine ⟨fun _ => ⟨fun h => (by cases h), fun _ => ?_⟩, fun h => by cases h⟩
   rw [hu, hn rfl]
  | true =>
   obtain ⟨⟨acc, g1, rfl, g2⟩, rfl, g3, g4⟩ := hy rfl
   refine ⟨fun h => (by cases h), fun _ => ⟨rfl, by omega, g4, by rw [T5]; exact g2, ?_⟩⟩
   rw [hu, g1]
   dsimp only
   rw [show ((j.toNat : Nat) : Int) = j by omega]
   split
   ·exact ⟨rfl, by omega⟩
   ·rfl
 ·have hc := Tf.1 hc
  refine Ao.mid (fun d => d.1 = s ∧ a ≤ d.2 ∧ d.2 ≤ s.length ∧ d.2.toNat = plE s a.toNat ∧ ∀ j : Nat, a.toNat ≤ j → j < d.2.toNat → C5 (byt s j) = true) ?_ ?_
  ·refine Dm.of (fun d => d.1 = s ∧ a ≤ d.2 ∧ d.2 ≤ s.length ∧ (∀ j : Nat, a.toNat ≤ j → j < d.2.toNat → C5 (byt s j) = true) ∧ ∃ f, s.length + 1 - d.2.toNat ≤ f ∧ plE s a.toNat = plN s f d.2.toNat) (fun d => (s.length - d.2).toNat) ?_ ?_
   ·exact ⟨rfl, Int.le_refl _, h1, fun j hj hj2 => absurd hj2 (by omega), s.length + 1, by omega, rfl⟩
   ·rintro ⟨s', i⟩ ⟨hs, i0, i1, hall, f, hf, e⟩
    dsimp only at hs i0 i1 hall hf e ⊢
    subst hs
    cases f with
    | zero => omega
    | succ f =>
    rw [plN] at e
    refine Ao.mid (fun b => b = decide (i.toNat < s'.length ∧ C5 (byt s' i.toNat) = true)) ⟨fun hc => ⟨by omega, of_decide_eq_true hc⟩, Ao.mid (fun b => i < s'.length → b = C5 (byt s' i.toNat)) ⟨fun hc => ?_, fun hc => ?_, trivial⟩ ?_, trivial⟩ ?_
    ·refine (hP _).to ?_
     rintro (b : Bool) _ hb _
     exact hb
    ·intro hlt
     have := of_decide_eq_false hc
     omega
    ·intro b hb
     by_cases hlt : i < (s'.length : Int)
     ·rw [hb hlt]
      have h2 : i.toNat < s'.length := by omega
      simp [hlt, h2]
     ·have h2 : ¬ i.toNat < s'.length := by omega
      simp [hlt, h2]
    ·rintro b rfl
     refine ⟨fun hc => Ao.of ?_, fun hc => ?_⟩
     ·have hc := of_decide_eq_true hc
      rw [if_pos hc] at e
      rw [w64 (by omega) (by omega)]
      refine ⟨⟨rfl, by dsimp only; omega, by dsimp only; omega, fun j hj hj2 => ?_, f, by dsimp only; omega, ?_⟩, by dsimp only; omega⟩
      ·dsimp only at hj2
       by_cases hji : j < i.toNat
       ·exact hall j hj hji
       ·rw [show j = i.toNat by omega]; exact hc.2
      ·rw [e]
       show _ = plN s' f (i + 1).toNat
       rw [show (i + 1).toNat = i.toNat + 1 by omega]
     ·rw [if_neg (of_decide_eq_false hc)] at e
      exact ⟨rfl, i0, i1, e.symm, hall⟩
  ·rintro ⟨s', i⟩ ⟨hs, i0, i1, he, hall⟩
   dsimp only at hs i0 i1 he hall ⊢
   subst hs
   refine Ao.mid (fun w => w = DG s' a i) ⟨⟨h0, i0, i1⟩, rfl, trivial⟩ ?_
   rintro w rfl
   refine ⟨rfl, i0, i1, V2 _ _ _, ?_⟩
   have hq := Lf (NB hall)
   have hlenc : (DG s' a i).length = i.toNat - a.toNat := by
    unfold DG
    rw [List.length_drop, List.length_take]
    omega
   have hfst : (if Ar (DG s' a i) = DG s' a i then FL (s', a) = (DG s' a i, (i, true)) ∧ a < i else FL (s', a) = noW) := by
    by_cases hia : i = a
    ·have hemp : DG s' a i = [] := List.length_eq_zero_iff.1 (by omega)
     rw [if_neg (by rw [hemp]; decide)]
     unfold FL
     dsimp only
     split
     ·rfl
     ·have hlt : a.toNat < s'.length := by omega
      rw [if_neg (fun h => hc ⟨hlt, h⟩), if_pos (by omega)]
    ·have hne : (DG s' a i).isEmpty = false := by
      cases hh : DG s' a i with
      | nil => rw [hh] at hlenc; simp at hlenc; omega
      | cons => rfl
     rw [hne] at hq
     rw [if_pos (by simpa using hq)]
     refine ⟨?_, by omega⟩
     unfold FL
     dsimp only
     have hlt : a.toNat < s'.length := by omega
     rw [if_neg (by omega), if_neg (fun h => hc ⟨hlt, h⟩), if_neg (by omega), ← he]
     rw [show ((i.toNat : Nat) : Int) = i by omega]
   exact hfst
 ·rintro ⟨q1, q2, w, s', i⟩ ⟨hs, i0, i1, hwl, hif⟩
  dsimp only at hs i0 i1 hwl hif ⊢
  subst hs
  have hcut : List.drop (Int.toNat a) (List.take (Int.toNat i) s') = DG s' a i := rfl
  rw [hcut]
  refine Ao.mid (fun d => d = (w, Ar w == DG s' a i)) ?_ ?_
  ·have hwl2 : w.length ≤ 17592186044416 := by omega
   repeat' first | exact trivial | exact h0 | exact i0 | exact i1 | rfl | (refine (hQ w hwl2).to ?_; rintro (r : Bs) _ rfl) | apply And.intro
  ·rintro d rfl
   dsimp only
   split at hif
   ·rename_i hq
    exact ⟨fun _ => ⟨hif.1, rfl, hif.2, i1⟩, fun h => by simp [hq] at h⟩
   ·rename_i hq
    exact ⟨fun h => by simp [hq] at h, fun _ => hif⟩
def wdN (s : Bs) : Nat → List Bs → Int → List Bs × Bool
 | 0, _, _ => ([], false)
 | f + 1, out, i => if (FL (s, i)).2.2 = false then ([], false) else if (FL (s, i)).2.1 = s.length then (out ++ [(FL (s, i)).1], true) else if byt s (FL (s, i)).2.1.toNat ≠ 32 then ([], false) else wdN s f (out ++ [(FL (s, i)).1]) ((FL (s, i)).2.1 + 1)
def Ei (s : Bs) : List Bs × Bool := if s = [] then ([], true) else wdN s (s.length + 1) [] 0
def LL (P : Pg) : Prop := ∀ s : Bs, s.length ≤ 1099511627776 → Fn P Ue B9 s fun (d : List Bs × Bool) _ => d = Ei s
theorem Vs (h : Has P EU) (hW : Ot P) : LL P := by
 intro s hl
 refine Nd h ?_
 unfold Jf
 dsimp only
 refine ⟨fun hc => ?_, fun hc => ?_⟩
 ·unfold Ei
  rw [if_pos (by simpa using hc)]
 have hne : ¬ s = [] := by simpa using hc
 refine Dm.of (fun d => d.2.2.2.1 = s ∧ 0 ≤ d.2.2.2.2 ∧ d.2.2.2.2 ≤ s.length ∧ (d.2.2.1.length : Int) ≤ d.2.2.2.2 ∧ ∃ f, s.length + 1 - d.2.2.2.2.toNat ≤ f ∧ Ei s = wdN s f d.2.2.1 d.2.2.2.2) (fun d => (s.length - d.2.2.2.2).toNat) ?_ ?_
 ·dsimp only
  refine ⟨rfl, by omega, by omega, by simp, s.length + 1, by omega, ?_⟩
  unfold Ei
  rw [if_neg hne]
 ·rintro ⟨q1, q2, out, s', i⟩ ⟨hs, i0, i1, hol, f, hf, e⟩
  dsimp only at hs i0 i1 hol hf e ⊢
  subst hs
  cases f with
  | zero => omega
  | succ f =>
  rw [wdN] at e
  refine Ao.of ?_
  refine (hW (s', i) i0 i1 (by dsimp only; omega)).to ?_
  rintro (⟨w, ok⟩ : Bs × Bool) (⟨s2, j⟩ : Rd) ⟨hy, hn⟩
  dsimp only at hy hn ⊢
  cases ok with
  | false =>
   rw [hn rfl, if_pos (show noW.2.2 = false from rfl)] at e
   exact ⟨fun _ => e.symm, fun h => by cases h⟩
  | true =>
   obtain ⟨g1, rfl, g3, g4⟩ := hy rfl
   rw [g1, if_neg (by simp)] at e
   dsimp only at e
   refine ⟨fun h => (by cases h), fun _ => ⟨by simp; omega, fun h2 => ?_, fun h2 => ?_⟩⟩
   ·rw [if_pos (by simpa using h2)] at e
    exact e.symm
   ·have h2 : ¬ j = s2.length := by simpa using h2
    rw [if_neg h2] at e
    have hbj : ((UInt8.toNat (List.getD s2 (Int.toNat j) 0) : Nat) : Int) = byt s2 j.toNat := rfl
    rw [hbj]
    refine ⟨⟨by omega, by omega⟩, fun h3 => ?_, fun h3 => ?_⟩
    ·rw [if_pos (by simpa using h3)] at e
     exact e.symm
    ·rw [if_neg (by simpa using h3)] at e
     rw [w64 (by omega) (by omega)]
     exact ⟨⟨rfl, by omega, by omega, by simp; omega, f, by omega, e⟩, by omega⟩
end Go.VS
