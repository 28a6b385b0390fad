/- Words: the document's reader. -/
import Derived.Test.YtcaandgkdmidkaaDoorKSpWrd
set_option linter.unusedVariables false
set_option linter.unusedSimpArgs false
namespace Go.VS
variable {P : Pg}
def Aak (P : Pg) : Prop := ∀ x : Bs × Int, 0 ≤ x.2 → x.2 ≤ x.1.length → x.1.length ≤ 17592186044416 → Fn P Ach YR x fun (d : Int × Bool) _ => (d.2 = true → OP x.1 x.2.toNat = some d.1 ∧ x.2 + 3 ≤ x.1.length) ∧ (d.2 = false → OP x.1 x.2.toNat = none)
theorem AbR (h : Has P Ze) : Aak P := by
 rintro ⟨s, a⟩ h0 h1 hl
 dsimp only at h0 h1 hl
 refine AaC h ?_
 unfold Z0
 dsimp only
 rw [w64 (n := a + 3) (by omega) (by omega)]
 refine Ao.mid (fun d => d.2.2 = P9 s a.toNat 3 ∧ 0 ≤ d.2.2 ∧ d.2.2 ≤ 511 ∧ a + 3 ≤ s.length ∧ ∀ j, j < 3 → isO s (a.toNat + j) = true) ?_ ?_
 ·refine Dm.of (fun d => a ≤ d.2.2.2 ∧ d.2.2.2 ≤ a + 3 ∧ d.2.2.1 = P9 s a.toNat (d.2.2.2 - a).toNat ∧ 0 ≤ d.2.2.1 ∧ d.2.2.1 ≤ 511 ∧ (d.2.2.2 = a → d.2.2.1 = 0) ∧ (d.2.2.2 = a + 1 → d.2.2.1 ≤ 7) ∧ (d.2.2.2 = a + 2 → d.2.2.1 ≤ 63) ∧ d.2.2.2 ≤ s.length ∧ ∀ j, j < (d.2.2.2 - a).toNat → isO s (a.toNat + j) = true) (fun d => (a + 3 - d.2.2.2).toNat) ?_ ?_
  ·dsimp only
   exact ⟨by omega, by omega, by rw [Int.sub_self]; rfl, by omega, by omega, fun _ => rfl, fun _ => by omega, fun _ => by omega, by omega, fun j hj => absurd hj (by simp)⟩
  ·rintro ⟨q1, q2, n, i⟩ ⟨k0, k3, hn, n0, n1, g0, g1, g2, hle, hall⟩
   dsimp only at k0 k3 hn n0 n1 g0 g1 g2 hle hall ⊢
   have hbi : ((UInt8.toNat (List.getD s (Int.toNat i) 0) : Nat) : Int) = byt s i.toNat := rfl
   have hb := Gq s i.toNat
   rw [hbi, U2 (by omega)]
   have hak : i.toNat = a.toNat + (i - a).toNat := by omega
   refine ⟨fun hc => Ao.of ⟨fun h2 => ?_, fun h2 => ?_, fun h2 => ?_, fun h2 => ⟨?_, ?_⟩⟩, fun hc => ?_⟩
   ·have := of_decide_eq_false h2; omega
   ·by_cases h3 : i ≥ (s.length : Int)
    ·simp [h3] at h2
    ·omega
   ·have hk := of_decide_eq_true hc
    have : isO s (a.toNat + (i - a).toNat) = false := by rw [← hak]; simpa using h2
    exact ⟨fun h => (by simp at h), fun _ => U9 (by omega) this⟩
   ·have hk := of_decide_eq_true hc
    have hO : isO s i.toNat = true := by simpa using h2
    simp only [isO, Bool.and_eq_true, decide_eq_true_eq] at hO
    omega
   ·have hk := of_decide_eq_true hc
    have hO : isO s i.toNat = true := by simpa using h2
    have hO' := hO
    simp only [isO, Bool.and_eq_true, decide_eq_true_eq] at hO'
    have ew : IntKind.u8.wrap (byt s i.toNat - 48) = byt s i.toNat - 48 := wu8 (by omega) (by omega)
    rw [ew, w64 (n := byt s i.toNat - 48) (by omega) (by omega), w64 (n := 8 * n) (by omega) (by omega), w64 (n := 8 * n + (byt s i.toNat - 48)) (by omega) (by omega), w64 (n := i + 1) (by omega) (by omega)]
    dsimp only
    refine ⟨⟨by omega, by omega, ?_, by omega, by omega, by omega, by omega, by omega, by omega, fun j hj => ?_⟩, by omega⟩
    ·rw [show (i + 1 - a).toNat = (i - a).toNat + 1 by omega, P9, ← hn, ← hak]
    ·by_cases hjk : j < (i - a).toNat
     ·exact hall j hjk
     ·rw [show j = (i - a).toNat by omega, ← hak]; exact hO
   ·have hk := of_decide_eq_false hc
    have e3 : (i - a).toNat = 3 := by omega
    rw [e3] at hn hall
    exact ⟨hn, n0, n1, by omega, hall⟩
 ·rintro ⟨q1, q2, n⟩ ⟨hn, n0, n1, hle, hall⟩
  dsimp only at hn n0 n1 hle hall ⊢
  refine ⟨fun hc => ?_, fun hc => ?_⟩
  ·have hc := of_decide_eq_true hc
   rw [wu8 (by omega) (by omega)]
   refine ⟨?_, hle⟩
   unfold OP
   rw [if_pos ⟨List.all_eq_true.2 fun j hj => hall j (List.mem_range.1 hj), by omega⟩, hn]
  ·have hc := of_decide_eq_false hc
   unfold OP
   rw [if_neg]
   rintro ⟨_, h2⟩
   omega
def ZS (P : Pg) : Prop := ∀ x : Bs × Int, x.1.length ≤ 17592186044416 → Fn P Aci YJ x fun (d : Bs × (Int × Bool)) _ => d = FL x
theorem Abq (h : Has P Y5) (hQ : Kh P) (hO : Aak P) (hP : Kg P) : ZS P := by
 rintro ⟨s, a⟩ hl
 dsimp only at hl
 refine Aap h ?_
 unfold ZR
 dsimp only
 refine ⟨fun hc => ?_, fun hc => ?_⟩
 ·have := cor.1 hc
  unfold FL
  dsimp only
  rw [if_pos (by omega)]
  rfl
 have hr := corf.1 hc
 have hba : ((UInt8.toNat (List.getD s (Int.toNat a) 0) : Nat) : Int) = byt s a.toNat := rfl
 rw [hba]
 refine ⟨by omega, fun hc => ?_, fun hc => ?_⟩
 ·have hc : ¬ byt s a.toNat = 34 := by simpa using hc
  refine Ao.mid (fun i => a ≤ i ∧ i ≤ s.length ∧ i.toNat = plE s a.toNat) ?_ ?_
  ·refine Dm.of (fun i => a ≤ i ∧ i ≤ s.length ∧ ∃ f, s.length + 1 - i.toNat ≤ f ∧ plE s a.toNat = plN s f i.toNat) (fun i => (s.length - i).toNat) ?_ ?_
   ·exact ⟨Int.le_refl _, by omega, s.length + 1, by omega, rfl⟩
   ·rintro i ⟨i0, i1, f, hf, e⟩
    cases f with
    | zero => omega
    | succ f =>
    rw [plN] at e
    refine ⟨fun hc => ⟨by omega, of_decide_eq_true hc⟩, Ao.mid (fun b => i < s.length → b = C5 (byt s i.toNat)) ⟨fun hc => ?_, fun hc => ?_, trivial⟩ ?_⟩
    ·refine (hP _).to ?_
     rintro (b : Bool) _ hb _
     exact hb
    ·intro hlt
     have := of_decide_eq_false hc
     omega
    ·intro b hb
     have hbb : (cond (decide (i < (s.length : Int))) b false) = decide (i.toNat < s.length ∧ C5 (byt s i.toNat) = true) := by
      by_cases hlt : i < (s.length : Int)
      ·rw [hb hlt]
       have h2 : i.toNat < s.length := by omega
       simp [hlt, h2]
      ·have h2 : ¬ i.toNat < s.length := by omega
       simp [hlt, h2]
     rw [hbb]
     refine ⟨fun hc => Ao.of ?_, fun hc => ?_⟩
     ·have hc := of_decide_eq_true hc
      rw [if_pos hc] at e
      rw [w64 (by omega) (by omega)]
      exact ⟨⟨by omega, by omega, f, by omega, by rw [e, show (i + 1).toNat = i.toNat + 1 by omega]⟩, by omega⟩
     ·rw [if_neg (of_decide_eq_false hc)] at e
      exact ⟨i0, i1, e.symm⟩
  ·rintro i ⟨i0, i1, e⟩
   unfold FL
   dsimp only
   rw [if_neg (by omega), if_neg hc, ← e]
   refine ⟨fun hc => ?_, fun hc => ⟨by omega, ?_⟩⟩
   ·have : i = a := by simpa using hc
    rw [if_pos (by rw [this])]
    rfl
   ·have : ¬ i = a := by simpa using hc
    rw [if_neg (by omega), show ((i.toNat : Nat) : Int) = i by omega]
    rfl
 ·have hc : byt s a.toNat = 34 := by simpa using hc
  have hu : FL (s, a) = (match qdF s (a.toNat + 1) with | none => noW | some (acc, j) => if Ar (strOf acc) = DG s a j then (strOf acc, ((j : Int), true)) else noW) := by
   unfold FL
   dsimp only
   rw [if_neg (by omega), if_pos hc]
   rfl
  rw [w64 (n := a + 1) (by omega) (by omega)]
  refine Ao.mid (fun d => a < d.2.2.2.1 ∧ d.2.2.2.1 ≤ s.length ∧ d.2.2.2.2.length ≤ s.length ∧ qdF s (a.toNat + 1) = if d.2.2.2.1 ≥ s.length then none else some (d.2.2.2.2, d.2.2.2.1.toNat + 1)) ?_ ?_
  ·refine Dm.of (fun d => a < d.2.2.2.1 ∧ d.2.2.2.1 ≤ s.length ∧ (d.2.2.2.2.length : Int) ≤ d.2.2.2.1 ∧ ∃ f, s.length + 1 - d.2.2.2.1.toNat ≤ f ∧ qdF s (a.toNat + 1) = qdN s f d.2.2.2.2 d.2.2.2.1.toNat) (fun d => (s.length - d.2.2.2.1).toNat) ?_ ?_
   ·dsimp only
    exact ⟨by (try dsimp only); omega, by (try dsimp only); omega, by simp; omega, s.length + 1, by (try dsimp only); omega, by rw [show (a + 1).toNat = a.toNat + 1 by (try dsimp only); omega]; rfl⟩
   ·rintro ⟨q1, q2, q3, i, acc⟩ ⟨i0, i1, hac, f, hf, e⟩
    dsimp only at i0 i1 hac hf e ⊢
    cases f with
    | zero => omega
    | succ f =>
    rw [qdN] at e
    have hb := Gq s i.toNat
    have hbi : ((UInt8.toNat (List.getD s (Int.toNat i) 0) : Nat) : Int) = byt s i.toNat := rfl
    rw [hbi]
    refine ⟨fun h2 => ⟨by omega, of_decide_eq_true h2⟩, fun h2 => Ao.of ?_, fun h2 => ?_⟩
    ·have hlt : i < s.length := by
      by_cases hlt : i < (s.length : Int)
      ·exact hlt
      ·simp [hlt] at h2
     have hn34 : ¬ byt s i.toNat = 34 := by
      rw [decide_eq_true hlt] at h2
      simpa using h2
     rw [if_pos (show i.toNat < s.length by omega), if_neg hn34] at e
     refine ⟨⟨by omega, hlt⟩, fun h3 => ?_, fun h3 => ?_⟩
     ·rw [if_neg (by simpa using h3)] at e
      rw [w64 (n := i + 1) (by omega) (by omega)]
      exact ⟨⟨by (try dsimp only); omega, hlt⟩, by simp; omega, ⟨by (try dsimp only); omega, by (try dsimp only); omega, by simp; omega, f, by (try dsimp only); omega, by rw [e, show (i + 1).toNat = i.toNat + 1 by (try dsimp only); omega]⟩, by (try dsimp only); omega⟩
     ·rw [if_pos (by simpa using h3)] at e
      rw [w64 (n := i + 1) (by omega) (by omega), w64 (n := i + 2) (by omega) (by omega)]
      have hbj : ((UInt8.toNat (List.getD s (Int.toNat (i + 1)) 0) : Nat) : Int) = byt s (i.toNat + 1) := by
       rw [show Int.toNat (i + 1) = i.toNat + 1 by omega]; rfl
      rw [hbj]
      refine ⟨fun h4 => ?_, fun h4 => ?_⟩
      ·have h4 : i + 1 = s.length := by simpa using h4
       rw [show Ll s (i.toNat + 1) = none from if_neg (by omega)] at e
       rw [hu, e]
       rfl
      have h4 : ¬ i + 1 = s.length := by simpa using h4
      have hl1 : i.toNat + 1 < s.length := by omega
      have hb1 := Gq s (i.toNat + 1)
      refine ⟨by omega, ?_⟩
      have hG : Ll s (i.toNat + 1) = if byt s (i.toNat + 1) = 34 ∨ byt s (i.toNat + 1) = 92 then some (byt s (i.toNat + 1), i.toNat + 1 + 1) else if byt s (i.toNat + 1) = 110 then some (10, i.toNat + 1 + 1) else if byt s (i.toNat + 1) = 116 then some (9, i.toNat + 1 + 1) else (OP s (i.toNat + 1)).map fun c => (c, i.toNat + 1 + 3) := if_pos hl1
      rw [hG] at e
      refine Ao.of (Ao.mid (fun q => q = decide (byt s (i.toNat + 1) = 34 ∨ byt s (i.toNat + 1) = 92)) ⟨fun g => ?_, fun g => ?_⟩ ?_)
      ·have g' : byt s (i.toNat + 1) = 34 := by simpa using g
       simp [g']
      ·have g' : ¬ byt s (i.toNat + 1) = 34 := by simpa using g
       show (byt s (i.toNat + 1) == 92) = _
       by_cases g3 : byt s (i.toNat + 1) = 92 <;> simp [g', g3]
      rintro q rfl
      refine Ao.of ⟨fun g => ?_, fun g => Ao.of ⟨fun g2 => ?_, fun g2 => Ao.of ⟨fun g3 => ?_, fun g3 => ?_⟩⟩⟩
      ·rw [if_pos (of_decide_eq_true g)] at e
       exact ⟨by (try dsimp only); omega, by simp; omega, ⟨by (try dsimp only); omega, by (try dsimp only); omega, by simp; omega, f, by (try dsimp only); omega, by rw [e, show (i + 2).toNat = i.toNat + 1 + 1 by (try dsimp only); omega]⟩, by (try dsimp only); omega⟩
      ·rw [if_neg (of_decide_eq_false g), if_pos (by simpa using g2)] at e
       exact ⟨by simp; omega, ⟨by (try dsimp only); omega, by (try dsimp only); omega, by simp; omega, f, by (try dsimp only); omega, by rw [e, show (i + 2).toNat = i.toNat + 1 + 1 by (try dsimp only); omega]⟩, by (try dsimp only); omega⟩
      ·rw [if_neg (of_decide_eq_false g), if_neg (by simpa using g2), if_pos (by simpa using g3)] at e
       exact ⟨by simp; omega, ⟨by (try dsimp only); omega, by (try dsimp only); omega, by simp; omega, f, by (try dsimp only); omega, by rw [e, show (i + 2).toNat = i.toNat + 1 + 1 by (try dsimp only); omega]⟩, by (try dsimp only); omega⟩
      ·rw [if_neg (of_decide_eq_false g), if_neg (by simpa using g2), if_neg (by simpa using g3)] at e
       refine (hO (s, i + 1) (by dsimp only; omega) (by dsimp only; omega) hl).to ?_
       rintro (⟨c, ok⟩ : Int × Bool) _ ⟨hy, hn⟩
       dsimp only at hy hn ⊢
       rw [show (i + 1).toNat = i.toNat + 1 by omega] at hy hn
       cases ok with
       | false =>
        rw [hn rfl] at e
        refine ⟨fun _ => ?_, fun h => by cases h⟩
        rw [hu, e]
        rfl
       | true =>
        have hy := hy rfl
        rw [hy.1] at e
        refine ⟨fun h => (by cases h), fun _ => ?_⟩
        rw [w64 (n := i + 4) (by omega) (by omega)]
        exact ⟨by simp; omega, ⟨by (try dsimp only); omega, by (try dsimp only); omega, by simp; omega, f, by (try dsimp only); omega, by rw [e, show (i + 4).toNat = i.toNat + 1 + 3 by (try dsimp only); omega]; rfl⟩, by (try dsimp only); omega⟩
    ·refine ⟨i0, i1, by omega, ?_⟩
     by_cases hlt : i < (s.length : Int)
     ·rw [decide_eq_true hlt] at h2
      have h34 : byt s i.toNat = 34 := by simpa using h2
      rw [if_pos (show i.toNat < s.length by omega), if_pos h34] at e
      rw [if_neg (by omega), e]
     ·rw [if_neg (show ¬ i.toNat < s.length by omega)] at e
      rw [if_pos (by omega), e]
  ·rintro ⟨q1, q2, q3, i, acc⟩ ⟨i0, i1, hac, e⟩
   dsimp only at i0 i1 hac e ⊢
   rw [w64 (n := i + 1) (by omega) (by omega)]
   have hcut : List.drop (Int.toNat a) (List.take (Int.toNat (i + 1)) s) = DG s a (i + 1) := rfl
   rw [hcut]
   refine Ao.mid (fun b => FL (s, a) = if b = true then noW else (strOf acc, (i + 1, true))) ⟨fun h2 => ?_, Ao.mid (fun q => i < s.length → q = Ar (strOf acc)) ⟨fun h2 => ?_, fun h2 => ?_, trivial⟩ ?_, trivial⟩ ?_
   ·have := of_decide_eq_false h2
    omega
   ·refine (hQ _ (by rw [T5]; omega)).to ?_
    rintro (r : Bs) _ hr _
    exact hr
   ·intro hlt
    have := of_decide_eq_true h2
    omega
   ·intro q hq
    rw [hu, e]
    by_cases hge : i ≥ (s.length : Int)
    ·rw [if_pos hge]
     simp [hge]
    ·rw [if_neg hge, hq (by omega)]
     dsimp only
     rw [show ((i.toNat + 1 : Nat) : Int) = i + 1 by omega]
     by_cases hqq : Ar (strOf acc) = DG s a (i + 1)
     ·rw [if_pos hqq]
      simp [hge, hqq]
     ·rw [if_neg hqq]
      simp [hge, hqq]
   ·intro b hb
    rw [hb]
    refine ⟨fun h => ?_, fun h => ?_⟩
    ·rw [if_pos h]; rfl
    ·rw [h, if_neg (by simp)]
def Aaj (P : Pg) : Prop := ∀ s : Bs, s.length ≤ 1099511627776 → Fn P Acj YQ s fun (d : List Bs × Bool) _ => d = Ei s
theorem Acv {s : Bs} {a : Int} (h : (FL (s, a)).2.2 = true) : a < (FL (s, a)).2.1 ∧ (FL (s, a)).2.1 ≤ s.length := by
 have hpl : ∀ (f i : Nat), i ≤ s.length → i ≤ plN s f i ∧ plN s f i ≤ s.length := by
  intro f
  induction f with
  | zero => intro i hi; exact ⟨Nat.le_refl _, hi⟩
  | succ f ih =>
   intro i hi
   rw [plN]
   split
   ·rename_i hh
    have := ih (i + 1) (by omega)
    omega
   ·exact ⟨Nat.le_refl _, hi⟩
 have heG : ∀ i c j, Ll s i = some (c, j) → i < j ∧ j ≤ s.length := by
  intro i c j hh
  unfold Ll at hh
  split at hh
  ·rename_i hlt
   split at hh
   ·cases hh; omega
   split at hh
   ·cases hh; omega
   split at hh
   ·cases hh; omega
   ·unfold OP at hh
    split at hh
    ·rename_i ho
     have h2 := List.all_eq_true.1 ho.1 2 (by simp)
     simp only [isO, Bool.and_eq_true, decide_eq_true_eq] at h2
     cases hh
     omega
    ·cases hh
  ·cases hh
 have hqd : ∀ (f : Nat) (acc : List Int) (i : Nat) r j, qdN s f acc i = some (r, j) → i < j ∧ j ≤ s.length := by
  intro f
  induction f with
  | zero => intro acc i r j hh; cases hh
  | succ f ih =>
   intro acc i r j hh
   rw [qdN] at hh
   split at hh
   ·split at hh
    ·cases hh; omega
    split at hh
    ·split at hh
     ·cases hh
     ·rename_i c k hk
      have h1 := heG _ _ _ hk
      have h2 := ih _ _ _ _ hh
      omega
    ·have h2 := ih _ _ _ _ hh
     omega
   ·cases hh
 unfold FL at h ⊢
 dsimp only at h ⊢
 split at h
 ·cases h
 rename_i hr
 rw [if_neg hr]
 split at h
 ·rename_i h34
  rw [if_pos h34]
  split at h
  ·cases h
  ·rename_i acc j hj
   split at h
   ·rename_i hq
    rw [if_pos hq]
    have := hqd _ _ _ _ _ hj
    dsimp only
    omega
   ·cases h
 ·rename_i h34
  rw [if_neg h34]
  split at h
  ·cases h
  ·rename_i hne
   rw [if_neg hne]
   have := hpl (s.length + 1) a.toNat (by omega)
   dsimp only
   unfold plE at hne ⊢
   omega
theorem AbQ (h : Has P Zd) (hU : ZS P) : Aaj P := by
 intro s hl
 refine AaB h ?_
 unfold ZZ
 dsimp only
 refine Ao.mid (fun _ => s = []) ?_ ?_
 ·refine Dm.of (fun d => 0 ≤ d.2.2.2 ∧ d.2.2.2 ≤ s.length ∧ (d.2.2.1.length : Int) ≤ d.2.2.2 ∧ (s ≠ [] → (d.2.2.2 < s.length ∨ d.2.2.1.length > 0) ∧ ∃ f, s.length + 1 - d.2.2.2.toNat ≤ f ∧ Ei s = wdN s f d.2.2.1 d.2.2.2)) (fun d => (s.length - d.2.2.2).toNat) ?_ ?_
  ·dsimp only
   refine ⟨by omega, by omega, by simp, fun hne => ⟨.inl ?_, s.length + 1, by omega, ?_⟩⟩
   ·have := List.length_pos_iff.2 hne
    omega
   ·unfold Ei
    rw [if_neg hne]
  ·rintro ⟨q1, q2, out, i⟩ ⟨i0, i1, hol, hne⟩
   dsimp only at i0 i1 hol hne ⊢
   refine ⟨fun hc => Ao.of ?_, fun hc => ?_⟩
   ·have hc := cor.1 hc
    have hns : s ≠ [] := by
     rintro rfl
     simp at hc i1
     omega
    obtain ⟨_, f, hf, e⟩ := hne hns
    cases f with
    | zero => omega
    | succ f =>
    rw [wdN] at e
    refine (hU (s, i) (by dsimp only; omega)).to ?_
    rintro (⟨w, j, ok⟩ : Bs × (Int × Bool)) _ hd
    have hle := Acv (s := s) (a := i)
    rw [← hd] at e hle
    dsimp only at e hle ⊢
    cases ok with
    | false =>
     rw [if_pos rfl] at e
     exact ⟨fun _ => e.symm, fun h => by cases h⟩
    | true =>
     have hle := hle rfl
     rw [if_neg (by simp)] at e
     refine ⟨fun h => (by cases h), fun _ => ⟨by simp; omega, fun h2 => ?_, fun h2 => ?_⟩⟩
     ·rw [if_pos (by simpa using h2)] at e
      exact e.symm
     ·have h2 : ¬ j = s.length := by simpa using h2
      rw [if_neg h2] at e
      have hbj : ((UInt8.toNat (List.getD s (Int.toNat j) 0) : Nat) : Int) = byt s j.toNat := rfl
      rw [hbj]
      refine ⟨⟨by omega, by omega⟩, fun h3 => ?_, fun h3 => ?_⟩
      ·rw [if_pos (by simpa using h3)] at e
       exact e.symm
      ·rw [if_neg (by simpa using h3)] at e
       rw [w64 (by omega) (by omega)]
       exact ⟨⟨by omega, by omega, by simp; omega, fun _ => ⟨.inr (by simp), f, by omega, e⟩⟩, by omega⟩
   ·have hc := corf.1 hc
    by_cases hns : s = []
    ·exact hns
    ·have := (hne hns).1
     omega
 ·intro d hd
  unfold Ei
  rw [if_pos hd]
end Go.VS
