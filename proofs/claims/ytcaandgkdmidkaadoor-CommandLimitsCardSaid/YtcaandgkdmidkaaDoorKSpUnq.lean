/- Words read: the program's reader. -/
import Derived.Test.YtcaandgkdmidkaaDoorKSpQuo
set_option linter.unusedVariables false
set_option linter.unusedSimpArgs false
namespace Go.VS
variable {P : Pg}
def isO (s : Bs) (a : Nat) : Bool := decide (a < s.length) && (decide (48 ≤ byt s a) && decide (byt s a ≤ 55))
def P9 (s : Bs) (a : Nat) : Nat → Int
 | 0 => 0
 | k + 1 => 8 * P9 s a k + (byt s (a + k) - 48)
def OP (s : Bs) (a : Nat) : Option Int := if ((List.range 3).all fun j => isO s (a + j)) = true ∧ P9 s a 3 < 256 then some (P9 s a 3) else none
theorem U9 {s : Bs} {a j : Nat} (hj : j < 3) (h : isO s (a + j) = false) : OP s a = none := by
 unfold OP
 rw [if_neg]
 rintro ⟨h1, _⟩
 rw [List.all_eq_true] at h1
 have := h1 j (List.mem_range.2 hj)
 rw [h] at this
 cases this
theorem U2 {s : Bs} {i : Int} (h0 : 0 ≤ i) : (cond (cond (decide (i ≥ (s.length : Int))) true (decide (byt s i.toNat < 48))) true (decide (byt s i.toNat > 55))) = !isO s i.toNat := by
 unfold isO
 by_cases h1 : i ≥ (s.length : Int)
 ·have h2 : ¬ i.toNat < s.length := by omega
  simp [h1, h2]
 ·have h2 : i.toNat < s.length := by omega
  by_cases h3 : byt s i.toNat < 48
  ·have h4 : ¬ 48 ≤ byt s i.toNat := by omega
   simp [h1, h2, h3, h4]
  ·by_cases h4 : byt s i.toNat > 55
   ·have h5 : ¬ byt s i.toNat ≤ 55 := by omega
    simp [h1, h2, h3, h4, h5]
   ·have h5 : byt s i.toNat ≤ 55 := by omega
    have h6 : 48 ≤ byt s i.toNat := by omega
    simp [h1, h2, h3, h4, h5, h6]
abbrev Rd := Bs × Int
def LP (P : Pg) : Prop := ∀ x : Rd, 0 ≤ x.2 → x.2 ≤ x.1.length → x.1.length ≤ 17592186044416 → Fn P zS9 A2 x fun (d : Int × Bool) (e : Rd) => (d.2 = true → OP x.1 x.2.toNat = some d.1 ∧ e = (x.1, x.2 + 3) ∧ x.2 + 3 ≤ x.1.length ∧ 0 ≤ d.1 ∧ d.1 ≤ 255) ∧ (d.2 = false → OP x.1 x.2.toNat = none)
theorem Vv (h : Has P Cj) : LP P := by
 rintro ⟨s, a⟩ h0 h1 hl
 dsimp only at h0 h1 hl
 refine Hs h ?_
 unfold EO
 dsimp only
 refine Ao.mid (fun d => d.2.2.1 = P9 s a.toNat 3 ∧ 0 ≤ d.2.2.1 ∧ d.2.2.1 ≤ 511 ∧ d.2.2.2 = (s, a + 3) ∧ a + 3 ≤ s.length ∧ ∀ j, j < 3 → isO s (a.toNat + j) = true) ?_ ?_
 ·refine Dm.of (fun d => 0 ≤ d.2.2.2.1 ∧ d.2.2.2.1 ≤ 3 ∧ d.2.2.1 = P9 s a.toNat d.2.2.2.1.toNat ∧ 0 ≤ d.2.2.1 ∧ d.2.2.1 ≤ 511 ∧ (d.2.2.2.1 = 0 → d.2.2.1 = 0) ∧ (d.2.2.2.1 = 1 → d.2.2.1 ≤ 7) ∧ (d.2.2.2.1 = 2 → d.2.2.1 ≤ 63) ∧ d.2.2.2.2 = (s, a + d.2.2.2.1) ∧ a + d.2.2.2.1 ≤ s.length ∧ ∀ j, j < d.2.2.2.1.toNat → isO s (a.toNat + j) = true) (fun d => (3 - d.2.2.2.1).toNat) ?_ ?_
  ·dsimp only
   exact ⟨by omega, by omega, rfl, by omega, by omega, fun _ => rfl, fun _ => by omega, fun _ => by omega, by simp, by omega, fun j hj => absurd hj (by simp)⟩
  ·rintro ⟨q1, q2, n, k, s', i⟩ ⟨k0, k3, hn, n0, n1, g0, g1, g2, hs, hle, hall⟩
   dsimp only at k0 k3 hn n0 n1 g0 g1 g2 hs hle hall ⊢
   cases hs
   have hbi : ((UInt8.toNat (List.getD s (Int.toNat (a + k)) 0) : Nat) : Int) = byt s (a + k).toNat := rfl
   have hb := Gq s (a + k).toNat
   rw [hbi, U2 (by omega)]
   have hak : (a + k).toNat = a.toNat + k.toNat := by omega
   refine ⟨fun hc => Ao.of ⟨fun h2 => ?_, fun h2 => ?_, fun h2 => ?_, fun h2 => Ao.of ⟨?_, ?_, trivial⟩⟩, fun hc => ?_⟩
   ·have := of_decide_eq_false h2; omega
   ·by_cases h3 : a + k ≥ (s.length : Int)
    ·simp [h3] at h2
    ·omega
   ·have hk := of_decide_eq_true hc
    have : isO s (a.toNat + k.toNat) = false := by rw [← hak]; simpa using h2
    exact ⟨fun h => (by simp at h), fun _ => U9 (by omega) this⟩
   ·have hk := of_decide_eq_true hc
    have hO : isO s (a + k).toNat = true := by simpa using h2
    simp only [isO, Bool.and_eq_true, decide_eq_true_eq] at hO
    omega
   ·have hk := of_decide_eq_true hc
    have hO : isO s (a + k).toNat = true := by simpa using h2
    have hO' := hO
    simp only [isO, Bool.and_eq_true, decide_eq_true_eq] at hO'
    have ew : IntKind.u8.wrap (byt s (a + k).toNat - 48) = byt s (a + k).toNat - 48 := wu8 (by omega) (by omega)
    rw [ew, w64 (n := byt s (a + k).toNat - 48) (by omega) (by omega), w64 (n := 8 * n) (by omega) (by omega), w64 (n := 8 * n + (byt s (a + k).toNat - 48)) (by omega) (by omega), w64 (n := a + k + 1) (by omega) (by omega), w64 (n := k + 1) (by omega) (by omega)]
    dsimp only
    refine ⟨⟨by omega, by omega, ?_, by omega, by omega, by omega, by omega, by omega, by rw [Int.add_assoc], by omega, fun j hj => ?_⟩, by omega⟩
    ·rw [show (k + 1).toNat = k.toNat + 1 by omega, P9, ← hn, hak]
    ·by_cases hjk : j < k.toNat
     ·exact hall j hjk
     ·rw [show j = k.toNat by omega, ← hak]; exact hO
   ·have hk := of_decide_eq_false hc
    have : k = 3 := by omega
    subst this
    exact ⟨hn, n0, n1, rfl, hle, hall⟩
 ·rintro ⟨q1, q2, n, r⟩ ⟨hn, n0, n1, hr, hle, hall⟩
  dsimp only at hn n0 n1 hr hle hall ⊢
  subst hr
  refine ⟨fun hc => ?_, fun hc => ?_⟩
  ·have hc := of_decide_eq_true hc
   rw [wu8 (by omega) (by omega)]
   refine ⟨?_, rfl, hle, n0, by omega⟩
   unfold OP
   rw [if_pos ⟨List.all_eq_true.2 fun j hj => hall j (List.mem_range.1 hj), by omega⟩, hn]
  ·have hc := of_decide_eq_false hc
   unfold OP
   rw [if_neg]
   rintro ⟨_, h2⟩
   omega
def Ll (s : Bs) (i : Nat) : Option (Int × Nat) := if i < s.length then (if byt s i = 34 ∨ byt s i = 92 then some (byt s i, i + 1) else if byt s i = 110 then some (10, i + 1) else if byt s i = 116 then some (9, i + 1) else (OP s i).map fun c => (c, i + 3)) else none
def Ki (P : Pg) : Prop := ∀ x : Rd, 0 ≤ x.2 → x.2 ≤ x.1.length → x.1.length ≤ 17592186044416 → Fn P RN AQ x fun (d : Int × Bool) (e : Rd) => (d.2 = true → Ll x.1 x.2.toNat = some (d.1, e.2.toNat) ∧ e.1 = x.1 ∧ x.2 < e.2 ∧ e.2 ≤ x.1.length ∧ 0 ≤ d.1 ∧ d.1 ≤ 255) ∧ (d.2 = false → Ll x.1 x.2.toNat = none)
theorem TW (h : Has P B7) (hO : LP P) : Ki P := by
 rintro ⟨s, a⟩ h0 h1 hl
 dsimp only at h0 h1 hl
 refine Hd h ?_
 unfold Ez Ll
 dsimp only
 refine ⟨fun hc => ?_, fun hc => ?_⟩
 ·have hc := of_decide_eq_true hc
  exact ⟨fun h => (by cases h), fun _ => by rw [if_neg (by omega)]⟩
 have hc := of_decide_eq_false hc
 refine Ao.mid (fun d => d = byt s a.toNat) ⟨⟨h0, by omega⟩, rfl, trivial⟩ ?_
 rintro d rfl
 have hb := Gq s a.toNat
 rw [if_pos (show a.toNat < s.length by omega), w64 (n := a + 1) (by omega) (by omega)]
 refine Ao.mid (fun q => q.2.2 = (s, a) ∧ ¬ (byt s a.toNat = 34 ∨ byt s a.toNat = 92) ∧ byt s a.toNat ≠ 110 ∧ byt s a.toNat ≠ 116) (Ao.mid (fun q => q = decide (byt s a.toNat = 34 ∨ byt s a.toNat = 92)) ⟨fun h2 => ?_, fun h2 => ?_⟩ ?_) ?_
 ·have h2' : byt s a.toNat = 34 := by simpa using h2
  simp [h2']
 ·have h2' : ¬ byt s a.toNat = 34 := by simpa using h2
  show (byt s a.toNat == 92) = _
  by_cases h3 : byt s a.toNat = 92 <;> simp [h2', h3]
 ·rintro q rfl
  refine ⟨fun h2 => ⟨fun _ => ?_, fun h => (by cases h)⟩, fun h2 => ⟨fun h3 => ⟨fun _ => ?_, fun h => (by cases h)⟩, fun h3 => ⟨fun h4 => ⟨fun _ => ?_, fun h => (by cases h)⟩, fun h4 => ?_⟩⟩⟩
  ·rw [if_pos (of_decide_eq_true h2)]
   exact ⟨by rw [show (a + 1).toNat = a.toNat + 1 by omega], rfl, by (try dsimp only); omega, by (try dsimp only); omega, hb.1, hb.2⟩
  ·rw [if_neg (of_decide_eq_false h2), if_pos (by simpa using h3)]
   exact ⟨by rw [show (a + 1).toNat = a.toNat + 1 by omega], rfl, by (try dsimp only); omega, by (try dsimp only); omega, by decide, by decide⟩
  ·rw [if_neg (of_decide_eq_false h2), if_neg (by simpa using h3), if_pos (by simpa using h4)]
   exact ⟨by rw [show (a + 1).toNat = a.toNat + 1 by omega], rfl, by (try dsimp only); omega, by (try dsimp only); omega, by decide, by decide⟩
  ·exact ⟨rfl, of_decide_eq_false h2, by simpa using h3, by simpa using h4⟩
 ·rintro ⟨q1, q2, r⟩ ⟨hr, h2, h3, h4⟩
  dsimp only at hr ⊢
  subst hr
  refine (hO (s, a) h0 h1 hl).to ?_
  rintro ⟨c, ok⟩ (e : Rd) ⟨hy, hn⟩
  dsimp only at hy hn ⊢
  rw [if_neg h2, if_neg h3, if_neg h4]
  refine ⟨fun hk => ?_, fun hk => by rw [hn hk]; rfl⟩
  obtain ⟨g1, rfl, g3, g4, g5⟩ := hy hk
  rw [g1]
  exact ⟨by rw [show (a + 3).toNat = a.toNat + 3 by omega]; rfl, rfl, by (try dsimp only); omega, g3, g4, g5⟩
def qdN (s : Bs) : Nat → List Int → Nat → Option (List Int × Nat)
 | 0, _, _ => none
 | f + 1, acc, i => if i < s.length then (if byt s i = 34 then some (acc, i + 1) else if byt s i = 92 then (match Ll s (i + 1) with | none => none | some (c, j) => qdN s f (acc ++ [c]) j) else qdN s f (acc ++ [byt s i]) (i + 1)) else none
def qdF (s : Bs) (i : Nat) : Option (List Int × Nat) := qdN s (s.length + 1) [] i
def Kj (P : Pg) : Prop := ∀ x : Rd, 0 ≤ x.2 → x.2 ≤ x.1.length → x.1.length ≤ 17592186044416 → Fn P Uc AR x fun (d : Bs × Bool) (e : Rd) => (d.2 = true → (∃ acc, qdF x.1 x.2.toNat = some (acc, e.2.toNat) ∧ d.1 = strOf acc ∧ acc.length ≤ x.1.length) ∧ e.1 = x.1 ∧ x.2 < e.2 ∧ e.2 ≤ x.1.length) ∧ (d.2 = false → qdF x.1 x.2.toNat = none)
theorem TZ (h : Has P B8) (hE : Ki P) : Kj P := by
 rintro ⟨s, a⟩ h0 h1 hl
 dsimp only at h0 h1 hl
 refine He h ?_
 unfold EA
 dsimp only
 refine Ao.mid (fun _ => qdF s a.toNat = none) ?_ ?_
 ·refine Dm.of (fun d => d.2.2.2.1 = s ∧ a ≤ d.2.2.2.2 ∧ d.2.2.2.2 ≤ s.length ∧ (d.2.2.1.length : Int) ≤ d.2.2.2.2 ∧ ∃ f, s.length + 1 - d.2.2.2.2.toNat ≤ f ∧ qdF s a.toNat = qdN s f d.2.2.1 d.2.2.2.2.toNat) (fun d => (s.length - d.2.2.2.2).toNat) ?_ ?_
  ·dsimp only
   exact ⟨rfl, Int.le_refl _, h1, by simpa using h0, s.length + 1, by omega, rfl⟩
  ·rintro ⟨q1, q2, acc, s', i⟩ ⟨hs, i0, i1, hac, f, hf, e⟩
   dsimp only at hs i0 i1 hac hf e ⊢
   subst hs
   cases f with
   | zero => omega
   | succ f =>
   rw [qdN] at e
   have hb := Gq s' i.toNat
   refine ⟨fun hc => Ao.of ?_, fun hc => ?_⟩
   ·have hc := of_decide_eq_true hc
    rw [if_pos (show i.toNat < s'.length by omega)] at e
    refine Ao.mid (fun d => d = byt s' i.toNat) ⟨⟨by omega, hc⟩, rfl, trivial⟩ ?_
    rintro d rfl
    rw [w64 (n := i + 1) (by omega) (by omega)]
    refine ⟨fun h2 => ⟨fun _ => ?_, fun h => (by cases h)⟩, fun h2 => ?_⟩
    ·rw [if_pos (by simpa using h2)] at e
     refine ⟨⟨acc, ?_, rfl, by omega⟩, rfl, by (try dsimp only); omega, by (try dsimp only); omega⟩
     rw [e]
     show some (acc, i.toNat + 1) = some (acc, (i + 1).toNat)
     rw [show (i + 1).toNat = i.toNat + 1 by omega]
    rw [if_neg (by simpa using h2)] at e
    refine Ao.mid (fun q => q.2.2.2.1 = s' ∧ i < q.2.2.2.2 ∧ q.2.2.2.2 ≤ s'.length ∧ qdF s' a.toNat = qdN s' f (acc ++ [q.2.2.1]) q.2.2.2.2.toNat) ⟨fun h3 => ?_, fun h3 => ?_⟩ ?_
    ·refine (hE (s', i + 1) (by (try dsimp only); omega) (by (try dsimp only); omega) hl).to ?_
     rintro ⟨c, ok⟩ ⟨s2, j⟩ ⟨hy, hn⟩
     dsimp only at hy hn ⊢
     rw [if_pos (by simpa using h3)] at e
     rw [show (i + 1).toNat = i.toNat + 1 by omega] at hy hn
     refine ⟨fun hk => ⟨fun h => (by cases h), fun _ => ?_⟩, fun hk => ?_⟩
     ·rw [hn (by cases ok; rfl; cases hk)] at e
      exact e
     ·obtain ⟨g1, g2, g3, g4, g5, g6⟩ := hy (by cases ok; cases hk; rfl)
      rw [g1] at e
      exact ⟨g2, by omega, g4, e⟩
    ·rw [if_neg (by simpa using h3)] at e
     exact ⟨rfl, by (try dsimp only); omega, by (try dsimp only); omega, by rw [e, show (i + 1).toNat = i.toNat + 1 by omega]⟩
    ·rintro ⟨r1, r2, c, s2, j⟩ ⟨hs2, hj, hj2, e2⟩
     dsimp only at hs2 hj hj2 e2 ⊢
     refine ⟨by simp; omega, ⟨hs2, by omega, hj2, by simp; omega, f, by omega, e2⟩, by omega⟩
   ·have hc := of_decide_eq_false hc
    rw [if_neg (show ¬ i.toNat < s'.length by omega)] at e
    exact e
 ·rintro d hd
  exact ⟨fun h => (by cases h), fun _ => hd⟩
end Go.VS
