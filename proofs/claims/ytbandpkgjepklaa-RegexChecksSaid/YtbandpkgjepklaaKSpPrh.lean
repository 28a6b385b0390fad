/- The program's parser of patterns: bounds, quantifiers, simple atoms. -/
import Derived.Test.YtbandpkgjepklaaKSpPrg
import Derived.Test.YtbandpkgjepklaaKSpDig
set_option linter.unusedVariables false
set_option linter.unusedSimpArgs false
namespace Go.VS
variable {P : Pg}
theorem RX {s : Bs} {a : Nat} {c : Int} (h : isc s a c = true) : a < s.length ∧ byt s a = c := Bi.1 h
theorem wp1 {s : Bs} {a : Nat} (ha : a ≤ s.length) (hs : s.length ≤ 1000000) : IntKind.i64.wrap ((a : Int) + 1) = ((a + 1 : Nat) : Int) := by rw [w64 (by omega) (by omega)]; omega
theorem wp2 {s : Bs} {a : Nat} (ha : a ≤ s.length) (hs : s.length ≤ 1000000) : IntKind.i64.wrap ((a : Int) + 2) = ((a + 2 : Nat) : Int) := by rw [w64 (by omega) (by omega)]; omega
def R7 (s : Bs) (a : Nat) : Option (Int × Nat) := match EW s a with
 | none => none
 | some (n, b) => if n > 100 then none else some (n, b)
def Hu (P : Pg) : Prop := ∀ (s : Bs) (a : Nat) (d : Int) (l : List Node), a ≤ s.length → s.length ≤ 1000000 → (R7 s a = none → P.kp (Kl 40)) → Fn P Us AZ (PSt s a d l) fun (q : Int) (e : Aa) => ∃ b : Nat, R7 s a = some (q, b) ∧ b ≤ s.length ∧ e = PSt s b d l
theorem Vu (h : Has P C0) (hN : NG P) : Hu P := by
 intro s a d l ha hs hp
 refine Jo h ?_
 unfold FR
 dsimp only
 refine Ag.mid (fun q => q = OQ (EW s a)) ⟨(hN (s, (a : Int)) (by dsimp only; omega)).to ?_, trivial⟩ ?_
 ·rintro (q : Int × (Int × Bool)) _ hq
  have hq : q = OQ (EW s a) := by
   have hq : q = Zx (s, (a : Int)) := hq
   rw [hq]
   unfold Zx
   dsimp only
   rw [if_neg (by omega)]
   rfl
  simp only [hq, and_true, and_self]
 ·rintro q rfl
  unfold R7 at hp ⊢
  cases hn : EW s a with
  | none =>
   rw [hn] at hp
   exact Ag.mid (fun _ => False) ⟨fun _ => hp rfl, fun hc => absurd hc (by simp [OQ])⟩ (fun _ h => h.elim)
  | some x =>
   obtain ⟨n, b⟩ := x
   rw [hn] at hp
   dsimp only [OQ] at hp ⊢
   have := Lp hn
   refine Ag.of ⟨fun hc => hp ?_, fun hc => ?_⟩
   ·have : n > 100 := by simpa using hc
    rw [if_pos this]
   ·have : ¬ n > 100 := by simpa using hc
    rw [if_neg this]
    exact ⟨b, rfl, by omega, rfl⟩
theorem Hu.at (h : Hu P) {s : Bs} {a : Nat} {d : Int} {l : List Node} (ha : a ≤ s.length) (hs : s.length ≤ 1000000) (hp : R7 s a = none → P.kp (Kl 40)) {K : Int → Aa → Prop} (hk : ∀ n b, R7 s a = some (n, b) → b ≤ s.length → K n (PSt s b d l)) : Fn P Us AZ (PSt s a d l) K :=
 (h s a d l ha hs hp).to fun (q : Int) (e : Aa) hq => by
  obtain ⟨b, h1, h2, rfl⟩ := hq
  exact hk q b h1 h2
theorem Rp {s : Bs} {a : Nat} {n : Int} {b : Nat} (h : R7 s a = some (n, b)) : EW s a = some (n, b) ∧ n ≤ 100 := by
 unfold R7 at h
 split at h
 ·cases h
 ·rename_i n' b' e
  split at h
  ·cases h
  ·cases h
   exact ⟨e, by omega⟩
theorem Ro {s : Bs} {a : Nat} (h : R7 s a = none) : ∀ n b, EW s a = some (n, b) → n > 100 := by
 intro n b e
 unfold R7 at h
 rw [e] at h
 dsimp only at h
 split at h
 ·assumption
 ·cases h
def Ht (P : Pg) : Prop := ∀ (s : Bs) (a : Nat) (d : Int) (l : List Node), a < s.length → s.length ≤ 1000000 → (B4 s a = none → P.kp (Kl 40)) → Fn P Y1 Bf (PSt s (a + 1) d l) fun (q : Int × Int) (e : Aa) => ∃ b : Nat, B4 s a = some (q.1, (q.2, b)) ∧ e = PSt s (b + 1) d l
theorem Vs (h : Has P CY) (hN : Hu P) (hH : FY P) (hM : Fp P) : Ht P := by
 intro s a d l ha hs hp
 refine Jm h ?_
 unfold FP
 dsimp only
 refine hN.at (by omega) hs ?_ ?_
 ·intro hn
  refine hp ?_
  unfold B4
  cases e : EW s (a + 1) with
  | none => rfl
  | some x =>
   obtain ⟨n, b⟩ := x
   have := Ro hn _ _ e
   dsimp only
   split
   ·rfl
   ·rw [if_neg (by omega)]
 intro lo nx hn hnx
 obtain ⟨hn, hlo⟩ := Rp hn
 have hlo0 := (Lp hn).1
 unfold B4 at hp ⊢
 rw [hn] at hp ⊢
 dsimp only at hp ⊢
 refine hH.at hnx hs ?_
 refine Ag.mid (fun q => ∃ e : Nat, (if isc s nx 44 = true then (if nx + 1 < s.length ∧ byt s (nx + 1) ≠ 125 then EW s (nx + 1) else some ((-1 : Int), nx + 1)) else some (lo, nx)) = some (q.1, e) ∧ e ≤ s.length ∧ q.1 ≤ 100 ∧ q.2 = PSt s e d l) ⟨fun hc => ?_, fun hc => ?_⟩ ?_
 ·have h44 := RX hc
  rw [if_pos hc, if_pos hc]
  refine hM.at (by omega) (Ag.of ?_)
  by_cases hl : nx + 1 = s.length
  ·rw [if_pos hl]
   refine ⟨fun hc => absurd hc (by simp), fun _ => ⟨nx + 1, ?_, by omega, show (-1 : Int) ≤ 100 by decide, rfl⟩⟩
   rw [if_neg (by omega)]
  ·rw [if_neg hl]
   refine ⟨fun hc2 => ?_, fun hc2 => ⟨nx + 1, ?_, by omega, show (-1 : Int) ≤ 100 by decide, rfl⟩⟩
   ·have hc2 : byt s (nx + 1) ≠ 125 := by simpa using hc2
    rw [if_pos hc, if_pos ⟨by omega, hc2⟩] at hp
    rw [if_pos ⟨by omega, hc2⟩]
    refine hN.at (by omega) hs (fun hq => hp ?_) ?_
    ·split
     ·rfl
     ·rename_i n b e
      have := Ro hq _ _ e
      rw [if_neg (by omega)]
    ·intro n b hq hb
     obtain ⟨hq, h100⟩ := Rp hq
     exact ⟨b, hq, hb, h100, rfl⟩
   ·have hc2 : byt s (nx + 1) = 125 := by simpa using hc2
    rw [if_neg (fun x => x.2 hc2)]
 ·rw [hc, if_neg (by simp)]
  exact ⟨nx, rfl, hnx, hlo, rfl⟩
 ·rintro ⟨hi, r⟩ ⟨e, he, hel, h100, hr⟩
  dsimp only at he h100 hr ⊢
  subst hr
  rw [he] at hp ⊢
  dsimp only at hp ⊢
  refine hH.at hel hs (Ag.of ⟨fun hc => hp ?_, fun hc => ?_⟩)
  ·rw [if_neg]
   rintro ⟨g1, g2, g3, g4⟩
   rw [g1] at hc
   by_cases g5 : hi ≥ 0
   ·simp [g5] at hc; omega
   ·simp [g5] at hc
  ·have g1 : isc s e 125 = true := by
    cases g : isc s e 125 with
    | true => rfl
    | false => rw [g] at hc; simp at hc
   rw [if_pos]
   ·rw [if_pos g1]
    exact ⟨e, rfl, rfl⟩
   ·refine ⟨g1, hlo, h100, ?_⟩
    rintro ⟨g2, g3⟩
    rw [g1] at hc
    simp [g2] at hc
    omega
theorem Ht.at (h : Ht P) {s : Bs} {a : Nat} {d : Int} {l : List Node} (ha : a < s.length) (hs : s.length ≤ 1000000) (hp : B4 s a = none → P.kp (Kl 40)) {K : Int × Int → Aa → Prop} (hk : ∀ lo hi b, B4 s a = some (lo, (hi, b)) → K (lo, hi) (PSt s (b + 1) d l)) : Fn P Y1 Bf (PSt s (a + 1) d l) K :=
 (h s a d l ha hs hp).to fun (q : Int × Int) (e : Aa) hq => by
  obtain ⟨b, h1, rfl⟩ := hq
  exact hk q.1 q.2 b h1
def Qa (s : Bs) (b : Nat) : Option (Option (Int × (Int × Nat))) := if s.length ≤ b then none else D5 s b
def IU (P : Pg) : Prop := ∀ (s : Bs) (a : Nat) (d : Int) (l : List Node), a ≤ s.length → s.length ≤ 1000000 → (Qa s a = some none → P.kp (Kl 40)) → Fn P AcP A7 (PSt s a d l) fun (q : Int × (Int × Bool)) (e : Aa) => match Qa s a with
 | none => q.2.2 = false ∧ e = PSt s a d l
 | some none => False
 | some (some (lo, (hi, b))) => q = (lo, (hi, true)) ∧ e = PSt s (b + 1) d l
theorem Xu (h : Has P Cn) (hH : FY P) (hB : Ht P) : IU P := by
 intro s a d l ha hs hp
 refine HH h ?_
 unfold EF
 dsimp only
 unfold Qa at hp ⊢
 by_cases hl : s.length ≤ a
 ·have hf : ∀ c, isc s a c = false := fun c => I3.2 fun x => by omega
  rw [if_pos hl]
  refine Ag.of (hH.at ha hs ?_)
  rw [hf]
  refine ⟨fun hc => absurd hc (by simp), fun _ => hH.at ha hs ?_⟩
  rw [hf]
  refine ⟨fun hc => absurd hc (by simp), fun _ => hH.at ha hs ?_⟩
  rw [hf]
  refine ⟨fun hc => absurd hc (by simp), fun _ => hH.at ha hs ?_⟩
  rw [hf]
  exact ⟨fun hc => absurd hc (by simp), fun _ => ⟨rfl, rfl⟩⟩
 ·rw [if_neg hl] at hp ⊢
  have no : ∀ {c : Int}, isc s a c = false → ¬ byt s a = c := fun h x => (I3.1 h) ⟨by omega, x⟩
  unfold D5 at hp ⊢
  refine Ag.of (hH.at ha hs ⟨fun hc => ?_, fun hc => ?_⟩)
  ·rw [if_pos hc, if_pos (RX hc).2]
   exact ⟨rfl, rfl⟩
  rw [if_neg (no hc)] at hp ⊢
  rw [hc, if_neg (by simp)]
  refine hH.at ha hs ⟨fun hc => ?_, fun hc => ?_⟩
  ·rw [if_pos hc, if_pos (RX hc).2]
   exact ⟨rfl, rfl⟩
  rw [if_neg (no hc)] at hp ⊢
  rw [hc, if_neg (by simp)]
  refine hH.at ha hs ⟨fun hc => ?_, fun hc => ?_⟩
  ·rw [if_pos hc, if_pos (RX hc).2]
   exact ⟨rfl, rfl⟩
  rw [if_neg (no hc)] at hp ⊢
  rw [hc, if_neg (by simp)]
  refine hH.at ha hs ⟨fun hc => ?_, fun hc => ?_⟩
  ·rw [if_pos (RX hc).2] at hp ⊢
   rw [if_pos hc]
   refine hB.at (by omega) hs (fun hn => hp (by rw [hn])) ?_
   intro lo hi b hb
   rw [hb]
   exact ⟨rfl, rfl⟩
  ·rw [if_neg (no hc), hc, if_neg (by simp)]
   exact ⟨rfl, rfl⟩
def Jg (P : Pg) : Prop := ∀ x : Bs × Int, 0 ≤ x.2 → x.2 ≤ 255 → Fn P "strings.IndexByte" Dt x fun (d : Int) _ => (d ≥ 0 ↔ ∃ b ∈ x.1, ((b.toNat : Nat) : Int) = x.2)
def isQ (c : Int) : Prop := c = 42 ∨ c = 43 ∨ c = 63 ∨ c = 123
instance (c : Int) : Decidable (isQ c) := by unfold isQ; infer_instance
def FZ (P : Pg) : Prop := ∀ (s : Bs) (a : Nat) (d : Int) (l : List Node) (k : Int), a < s.length → s.length ≤ 1000000 → l.length ≤ 1000000000 → (a + 1 < s.length ∧ isQ (byt s (a + 1)) → P.kp (Kl 40)) → Fn P Ur AY (PSt s a d l, k) fun (q : Int) (e : Aa) => ¬ (a + 1 < s.length ∧ isQ (byt s (a + 1))) ∧ q = (l.length : Int) ∧ e = PSt s (a + 1) d (l ++ [HM k])
theorem Vq (h : Has P CX) (hA : Gq P) (hM : Fp P) (hI : Jg P) : FZ P := by
 intro s a d l k ha hs hl hp
 refine Jl h ?_
 unfold FO
 dsimp only
 rw [wp1 (by omega) hs]
 refine hA.at hl (hM.at (by omega) ?_)
 by_cases he : a + 1 = s.length
 ·rw [if_pos he]
  refine Ag.mid (fun _ => True) ⟨fun hc => absurd hc (by simp), fun _ => trivial, trivial⟩ fun q _ => Ag.of ⟨fun hc => absurd hc (by simp), fun _ => ⟨fun x => by omega, rfl, rfl⟩⟩
 ·rw [if_neg he]
  refine Ag.mid (fun q => q ≥ 0 ↔ isQ (byt s (a + 1))) ⟨fun _ => (hI (([42, 43, 63, 123] : Bs), byt s (a + 1)) (CQ s (a + 1)).1 (CQ s (a + 1)).2).to ?_, fun hc => absurd hc (by simp), trivial⟩ ?_
  ·rintro (q : Int) _ hq
   have hq : q ≥ 0 ↔ ∃ b ∈ ([42, 43, 63, 123] : Bs), ((b.toNat : Nat) : Int) = byt s (a + 1) := hq
   show q ≥ 0 ↔ isQ (byt s (a + 1))
   rw [hq]
   unfold isQ
   simp only [List.mem_cons, List.not_mem_nil, or_false, exists_eq_or_imp, exists_eq_left]
   constructor
   ·rintro (g | g | g | g)
    ·exact .inl g.symm
    ·exact .inr (.inl g.symm)
    ·exact .inr (.inr (.inl g.symm))
    ·exact .inr (.inr (.inr g.symm))
   ·rintro (g | g | g | g)
    ·exact .inl g.symm
    ·exact .inr (.inl g.symm)
    ·exact .inr (.inr (.inl g.symm))
    ·exact .inr (.inr (.inr g.symm))
  ·intro q hq
   refine Ag.of ⟨fun hc => hp ⟨by omega, hq.1 (by simpa using hc)⟩, fun hc => ⟨fun x => ?_, rfl, rfl⟩⟩
   have := hq.2 x.2
   have hc : ¬ q ≥ 0 := by simpa using hc
   exact hc this
def K9 (P : Pg) : Prop := ∀ (s : Bs) (a : Nat) (d : Int) (l : List Node), a < s.length → s.length ≤ 1000000 → l.length ≤ 1000000000 → Fn P XH Cs (PSt s a d l) fun (q : Int) (e : Aa) => q = (l.length : Int) ∧ e = PSt s (a + 1) d (l ++ [setNode (GM z4)])
theorem ZR (h : Has P DF) (hC : IQ P) (hS : Kd P) : K9 P := by
 intro s a d l ha hs hl
 refine Ly h ?_
 unfold Hx
 dsimp only
 rw [wp1 (by omega) hs]
 exact hC.at (hS.at hl ⟨rfl, rfl⟩)
def F0 (P : Pg) : Prop := ∀ (s : Bs) (a : Nat) (d : Int) (l : List Node), a < s.length → s.length ≤ 1000000 → l.length ≤ 1000000000 → (s.length ≤ a + 1 → P.kp (Kl 40)) → Fn P VF BX (PSt s a d l) fun (q : Int) (e : Aa) => ¬ s.length ≤ a + 1 ∧ q = (l.length : Int) ∧ e = PSt s (a + 2) d (l ++ [setNode (EG z4 (byt s (a + 1)))])
theorem Vt (h : Has P CZ) (hT : Jh P) (hW : G2 P) (hS : Kd P) : F0 P := by
 intro s a d l ha hs hl hp
 refine Jn h ?_
 unfold FQ
 dsimp only
 rw [wp1 (by omega) hs]
 have hb := CQ s (a + 1)
 exact hT.at (by omega) hs (fun x => hp (by omega)) fun hlt => hW.at hb.1 hb.2 (hS.at hl ⟨by omega, rfl, rfl⟩)
def F4 (P : Pg) : Prop := ∀ (s : Bs) (a : Nat) (d : Int) (l : List Node), a < s.length → s.length ≤ 1000000 → l.length ≤ 1000000000 → Fn P VG BZ (PSt s a d l) fun (q : Int) (e : Aa) => q = (l.length : Int) ∧ e = PSt s (a + 1) d (l ++ [setNode (EG z4 (byt s a))])
theorem Vv (h : Has P C1) (hT : Jh P) (hW : G2 P) (hS : Kd P) : F4 P := by
 intro s a d l ha hs hl
 refine Jp h ?_
 unfold FT
 dsimp only
 have hb := CQ s a
 exact hT.at (by omega) hs (fun x => by omega) fun hlt => hW.at hb.1 hb.2 (hS.at hl ⟨rfl, rfl⟩)
def Nt (c : Int) : Int := if c = 40 then 0 else if c = 91 then 1 else if c = 46 then 2 else if c = 92 then 3 else 4
def Kc (P : Pg) : Prop := ∀ (s : Bs) (a : Nat) (d : Int) (l : List Node) (c : Int), (isQ c → P.kp (Kl 40)) → Fn P AcK BH (PSt s a d l, c) fun (q : Int) (e : Aa) => ¬ isQ c ∧ q = Nt c ∧ e = PSt s a d l
theorem YU (h : Has P Dp) : Kc P := by
 intro s a d l c hp
 refine Kv h ?_
 unfold GW Nt isQ at *
 dsimp only
 refine Ag.mid (fun _ => c ≠ 40 ∧ c ≠ 91 ∧ c ≠ 46 ∧ c ≠ 92 ∧ ¬ (c = 42 ∨ c = 43 ∨ c = 63 ∨ c = 123)) ⟨fun hc => ?_, fun h1 => ⟨fun hc => ?_, fun h2 => ⟨fun hc => ?_, fun h3 => ⟨fun hc => ?_, fun h4 => ?_⟩⟩⟩⟩ ?_
 ·have hc : c = 40 := by simpa using hc
  subst hc
  exact ⟨by decide, rfl, rfl⟩
 ·have hc : c = 91 := by simpa using hc
  subst hc
  exact ⟨by decide, rfl, rfl⟩
 ·have hc : c = 46 := by simpa using hc
  subst hc
  exact ⟨by decide, rfl, rfl⟩
 ·have hc : c = 92 := by simpa using hc
  subst hc
  exact ⟨by decide, rfl, rfl⟩
 ·have h1 : c ≠ 40 := by simpa using h1
  have h2 : c ≠ 91 := by simpa using h2
  have h3 : c ≠ 46 := by simpa using h3
  have h4 : c ≠ 92 := by simpa using h4
  refine Ag.mid (fun q => q = true ↔ (c = 42 ∨ c = 43 ∨ c = 63 ∨ c = 123)) ⟨fun hc => ?_, fun g1 => Ag.of ⟨fun hc => ?_, fun g2 => Ag.of ⟨fun hc => ?_, fun g3 => ?_⟩⟩⟩ ?_
  ·simp at hc; simp [hc]
  ·simp at hc; simp [hc]
  ·simp at hc; simp [hc]
  ·simp at g1 g2 g3; simp [g1, g2, g3]
  ·intro q hq
   refine Ag.of ⟨fun hc => hp (hq.1 hc), fun hc => ⟨h1, h2, h3, h4, fun x => ?_⟩⟩
   rw [hq.2 x] at hc
   cases hc
 ·rintro _ ⟨h1, h2, h3, h4, h5⟩
  exact ⟨h5, by rw [if_neg h1, if_neg h2, if_neg h3, if_neg h4], rfl⟩
end Go.VS
