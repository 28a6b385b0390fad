/- The program's parser of patterns: its small steps. -/
import Derived.Test.YtbandpkgjepklaaKSpPrs
set_option linter.unusedVariables false
set_option linter.unusedSimpArgs false
namespace Go.VS
variable {P : Pg}
def Kl (c : Int) : Value := .iface 26 (.int .i64 c)
abbrev PSt (s : Bs) (a : Nat) (d : Int) (l : List Node) : Aa := (s, (((a : Nat) : Int), (d, l)))
def Fp (P : Pg) : Prop := ∀ (s : Bs) (a : Nat) (d : Int) (l : List Node), a ≤ s.length → Fn P zS9 AF (PSt s a d l) fun (q : Int × Bool) (e : Aa) => e = PSt s a d l ∧ q = if a = s.length then ((0 : Int), false) else (byt s a, true)
theorem ZN (h : Has P Dn) : Fp P := by
 intro s a d l ha
 refine Ku h ?_
 unfold GV
 dsimp only
 refine ⟨fun hc => ⟨rfl, ?_⟩, fun hc => Ag.mid (fun q => q = (byt s a, true)) ⟨⟨by omega, ?_⟩, ⟨rfl, trivial⟩, trivial⟩ ?_⟩
 ·have h9 : (a : Int) = s.length := by simpa using hc
  rw [if_pos (by omega)]
 ·have : ¬ (a : Int) = s.length := by simpa using hc
  omega
 ·rintro q rfl
  have : ¬ (a : Int) = s.length := by simpa using hc
  exact ⟨rfl, by rw [if_neg (by omega)]⟩
theorem Fp.at (h : Fp P) {s : Bs} {a : Nat} {d : Int} {l : List Node} (ha : a ≤ s.length) {K : Int × Bool → Aa → Prop} (hk : K (if a = s.length then ((0 : Int), false) else (byt s a, true)) (PSt s a d l)) : Fn P zS9 AF (PSt s a d l) K :=
 (h s a d l ha).to fun (q : Int × Bool) (e : Aa) hq => by
  obtain ⟨rfl, rfl⟩ := hq
  exact hk
def FY (P : Pg) : Prop := ∀ (s : Bs) (a : Nat) (d : Int) (l : List Node) (c : Int), a ≤ s.length → s.length ≤ 1000000 → Fn P zS3 As (PSt s a d l, c) fun (q : Bool) (e : Aa) => q = isc s a c ∧ e = PSt s (if isc s a c = true then a + 1 else a) d l
theorem AaR (h : Has P DG) (hM : Fp P) : FY P := by
 intro s a d l c ha hs
 refine Lz h ?_
 unfold Hy
 dsimp only
 refine hM.at ha ?_
 have e1 : IntKind.i64.wrap ((a : Int) + 1) = ((a + 1 : Nat) : Int) := by rw [w64 (by omega) (by omega)]; omega
 by_cases hl : a = s.length
 ·rw [if_pos hl]
  have hf : isc s a c = false := I3.2 fun x => by omega
  rw [hf]
  exact ⟨fun _ => ⟨rfl, rfl⟩, fun hc => absurd hc (by simp)⟩
 ·rw [if_neg hl]
  dsimp only
  refine ⟨fun hc => ?_, fun hc => ?_⟩
  ·have : byt s a ≠ c := by simpa using hc
   have hf : isc s a c = false := I3.2 fun x => this x.2
   rw [hf]
   exact ⟨rfl, rfl⟩
  ·have : byt s a = c := by simpa using hc
   have hf : isc s a c = true := Bi.2 ⟨by omega, this⟩
   rw [hf, if_pos rfl]
   refine ⟨rfl, ?_⟩
   show (s, (IntKind.i64.wrap ((a : Int) + 1), (d, l))) = _
   rw [e1]
theorem FY.at (h : FY P) {s : Bs} {a : Nat} {d : Int} {l : List Node} {c : Int} (ha : a ≤ s.length) (hs : s.length ≤ 1000000) {K : Bool → Aa → Prop} (hk : K (isc s a c) (PSt s (if isc s a c = true then a + 1 else a) d l)) : Fn P zS3 As (PSt s a d l, c) K :=
 (h s a d l c ha hs).to fun (q : Bool) (e : Aa) hq => by
  obtain ⟨rfl, rfl⟩ := hq
  exact hk
def Jh (P : Pg) : Prop := ∀ (s : Bs) (a : Nat) (d : Int) (l : List Node), a ≤ s.length → s.length ≤ 1000000 → (a = s.length → P.kp (Kl 40)) → Fn P Sv AS (PSt s a d l) fun (q : Int) (e : Aa) => a < s.length ∧ q = byt s a ∧ e = PSt s (a + 1) d l
theorem ZS (h : Has P Dq) (hM : Fp P) : Jh P := by
 intro s a d l ha hs hp
 refine Kw h ?_
 unfold GX
 dsimp only
 refine hM.at ha ?_
 have e1 : IntKind.i64.wrap ((a : Int) + 1) = ((a + 1 : Nat) : Int) := by rw [w64 (by omega) (by omega)]; omega
 by_cases hl : a = s.length
 ·rw [if_pos hl]
  exact Ag.mid (fun _ => False) ⟨fun _ => hp hl, fun hc => absurd hc (by simp)⟩ (fun _ h => h.elim)
 ·rw [if_neg hl]
  refine Ag.of ⟨fun hc => absurd hc (by simp), fun _ => ⟨by omega, rfl, ?_⟩⟩
  show (s, (IntKind.i64.wrap ((a : Int) + 1), (d, l))) = _
  rw [e1]
theorem Jh.at (h : Jh P) {s : Bs} {a : Nat} {d : Int} {l : List Node} (ha : a ≤ s.length) (hs : s.length ≤ 1000000) (hp : a = s.length → P.kp (Kl 40)) {K : Int → Aa → Prop} (hk : a < s.length → K (byt s a) (PSt s (a + 1) d l)) : Fn P Sv AS (PSt s a d l) K :=
 (h s a d l ha hs hp).to fun (q : Int) (e : Aa) hq => by
  obtain ⟨h1, rfl, rfl⟩ := hq
  exact hk h1
def Gq (P : Pg) : Prop := ∀ (s : Bs) (a : Nat) (d : Int) (l : List Node) (n : Node), l.length ≤ 1000000000 → Fn P zS8 AG (PSt s a d l, n) fun (q : Int) (e : Aa) => q = (l.length : Int) ∧ e = PSt s a d (l ++ [n])
theorem ZP (h : Has P DE) : Gq P := by
 intro s a d l n hl
 refine Lx h ?_
 unfold Hw
 dsimp only
 refine Ag.mid (fun q => q = PSt s a d (l ++ [n])) ?_ ?_
 ·simp only [List.length_cons, List.length_nil, and_true, and_self]
  omega
 ·rintro q rfl
  dsimp only
  have hlen : (l ++ [n]).length = l.length + 1 := by simp
  rw [hlen, w64 (by omega) (by omega)]
  exact ⟨by omega, rfl⟩
theorem Gq.at (h : Gq P) {s : Bs} {a : Nat} {d : Int} {l : List Node} {n : Node} (hl : l.length ≤ 1000000000) {K : Int → Aa → Prop} (hk : K (l.length : Int) (PSt s a d (l ++ [n]))) : Fn P zS8 AG (PSt s a d l, n) K :=
 (h s a d l n hl).to fun (q : Int) (e : Aa) hq => by
  obtain ⟨rfl, rfl⟩ := hq
  exact hk
def Gx (P : Pg) : Prop := ∀ (s : Bs) (a : Nat) (d : Int) (l : List Node) (kind : Int) (kids : List Int), l.length ≤ 1000000000 → Fn P Uq A5 (PSt s a d l, (kind, kids)) fun (q : Int) (e : Aa) => q = (C5 kind kids a l).1 ∧ e = PSt s a d (C5 kind kids a l).2.2
theorem YS (h : Has P Da) (hA : Gq P) : Gx P := by
 intro s a d l kind kids hl
 refine JR h ?_
 unfold GB C5
 dsimp only
 refine Ag.mid (fun q => q.2 = PSt s a d l ∧ kids.length ≠ 0 ∧ kids.length ≠ 1) ⟨fun hc => ?_, fun hc => ⟨fun hc2 => ?_, fun hc2 => ?_⟩⟩ ?_
 ·have hc : ((kids.length : Nat) : Int) = 0 := by simpa using hc
  refine hA.at hl ?_
  rw [if_pos (by omega)]
  exact ⟨rfl, rfl⟩
 ·have hc : ¬ ((kids.length : Nat) : Int) = 0 := by simpa using hc
  have hc2 : ((kids.length : Nat) : Int) = 1 := by simpa using hc2
  rw [if_neg (by omega), if_pos (by omega)]
  exact ⟨⟨by omega, by omega⟩, by omega, rfl, rfl⟩
 ·have hc : ¬ ((kids.length : Nat) : Int) = 0 := by simpa using hc
  have hc2 : ¬ ((kids.length : Nat) : Int) = 1 := by simpa using hc2
  exact ⟨rfl, by omega, by omega⟩
 ·rintro ⟨q1, q2⟩ ⟨hq, h0, h1⟩
  dsimp only at hq ⊢
  subst hq
  refine hA.at hl ?_
  rw [if_neg h0, if_neg h1]
  exact ⟨rfl, rfl⟩
theorem Gx.at (h : Gx P) {s : Bs} {a : Nat} {d : Int} {l : List Node} {kind : Int} {kids : List Int} (hl : l.length ≤ 1000000000) {K : Int → Aa → Prop} (hk : K (C5 kind kids a l).1 (PSt s a d (C5 kind kids a l).2.2)) : Fn P Uq A5 (PSt s a d l, (kind, kids)) K :=
 (h s a d l kind kids hl).to fun (q : Int) (e : Aa) hq => by
  obtain ⟨rfl, rfl⟩ := hq
  exact hk
def Kd (P : Pg) : Prop := ∀ (s : Bs) (a : Nat) (d : Int) (l : List Node) (w : Bb), l.length ≤ 1000000000 → Fn P OV AM (PSt s a d l, w) fun (q : Int) (e : Aa) => q = (l.length : Int) ∧ e = PSt s a d (l ++ [setNode w])
theorem AaS (h : Has P DH) (hA : Gq P) : Kd P := by
 intro s a d l w hl
 refine LA h ?_
 unfold Hz
 exact hA.at hl ⟨rfl, rfl⟩
theorem Kd.at (h : Kd P) {s : Bs} {a : Nat} {d : Int} {l : List Node} {w : Bb} (hl : l.length ≤ 1000000000) {K : Int → Aa → Prop} (hk : K (l.length : Int) (PSt s a d (l ++ [setNode w]))) : Fn P OV AM (PSt s a d l, w) K :=
 (h s a d l w hl).to fun (q : Int) (e : Aa) hq => by
  obtain ⟨rfl, rfl⟩ := hq
  exact hk
def G2 (P : Pg) : Prop := ∀ x : Bb × Int, 0 ≤ x.2 → x.2 ≤ 255 → Fn P ND AO x fun (d : Bb) _ => d = EG x.1 x.2
theorem ZT (h : Has P Ey) : G2 P := by
 intro x h1 h2
 refine MQ h ?_
 unfold IV
 obtain ⟨e1, e2, e3, e4⟩ := Z0 h1 h2
 rw [e1]
 exact ⟨by decide, ⟨e2, e3⟩, by omega, by decide, e4, ⟨e2, e3⟩, by omega, by unfold EG orW; rfl⟩
theorem G2.at (h : G2 P) {w : Bb} {c : Int} (h1 : 0 ≤ c) (h2 : c ≤ 255) {K : Bb → Unit → Prop} (hk : K (EG w c) ()) : Fn P ND AO (w, c) K :=
 (h (w, c) h1 h2).to fun (q : Bb) _ hq => by
  have hq : q = EG w c := hq
  subst hq
  exact hk
theorem OI : ∀ (n : Nat) (c : Int) (w : Bb), EH (n + 1) c w = EG (EH n c w) (c + n)
 | 0, c, w => by simp [EH]
 | n + 1, c, w => by
  rw [EH, OI n (c + 1) (EG w c), EH]
  congr 1
  omega
def F5 (P : Pg) : Prop := ∀ x : Bb × (Int × Int), 0 ≤ x.2.1 → x.2.1 ≤ 255 → 0 ≤ x.2.2 → x.2.2 ≤ 255 → Fn P zS1 Ao x fun (d : Bb) _ => d = Bp x.2.1 x.2.2 x.1
theorem Vw (h : Has P Dr) (hW : G2 P) : F5 P := by
 rintro ⟨w, a, b⟩ h1 h2 h3 h4
 dsimp only at h1 h2 h3 h4
 refine Kx h ?_
 unfold GY
 dsimp only
 rw [w64 (n := a) (by omega) (by omega), w64 (n := b) (by omega) (by omega)]
 refine Ag.mid (fun q => q = Bp a b w) ?_ fun q hq => hq
 refine B0.of (fun q => a ≤ q.1 ∧ (q.1 ≤ b + 1 ∨ q.1 = a) ∧ q.2 = EH (q.1 - a).toNat a w) (fun q => (b + 1 - q.1).toNat) ⟨Int.le_refl _, .inr rfl, by simp [EH]⟩ ?_
 rintro ⟨i, v⟩ ⟨i0, i1, hv⟩
 dsimp only at i0 i1 hv ⊢
 subst hv
 refine ⟨fun hc => ?_, fun hc => ?_⟩
 ·have hc := of_decide_eq_true hc
  rw [wu8 (by omega) (by omega), w64 (n := i + 1) (by omega) (by omega)]
  refine Ag.of (hW.at (by omega) (by omega) ⟨⟨by omega, .inl (by omega), ?_⟩, by omega⟩)
  rw [show (i + 1 - a).toNat = (i - a).toNat + 1 by omega, OI, show a + (((i - a).toNat : Nat) : Int) = i by omega]
 ·have hc := of_decide_eq_false hc
  unfold Bp
  congr 1
  omega
theorem F5.at (h : F5 P) {w : Bb} {a b : Int} (h1 : 0 ≤ a) (h2 : a ≤ 255) (h3 : 0 ≤ b) (h4 : b ≤ 255) {K : Bb → Unit → Prop} (hk : K (Bp a b w) ()) : Fn P zS1 Ao (w, (a, b)) K :=
 (h (w, (a, b)) h1 h2 h3 h4).to fun (q : Bb) _ hq => by
  have hq : q = Bp a b w := hq
  subst hq
  exact hk
def IQ (P : Pg) : Prop := ∀ x : Bb, Fn P XE AR x fun (d : Bb) _ => d = GM x
theorem YQ (h : Has P CG) : IQ P := by
 rintro ⟨a, b, c, d⟩
 refine I1 h ?_
 unfold Fu
 dsimp only
 refine Ag.mid (fun q => q = GM (a, (b, (c, d)))) ?_ fun q hq => hq
 refine B0.of (fun q => ∃ i : Int, 0 ≤ i ∧ i ≤ 4 ∧ q = (i, ((if i < 1 then a else M9 a), ((if i < 2 then b else M9 b), ((if i < 3 then c else M9 c), (if i < 4 then d else M9 d)))))) (fun q => (4 - q.1).toNat) ⟨0, by decide, by decide, rfl⟩ ?_
 rintro _ ⟨i, i0, i1, rfl⟩
 dsimp only
 refine ⟨fun hc => Ag.of ?_, fun hc => ?_⟩
 ·have hc := of_decide_eq_true hc
  simp only [V8]
  rw [w64 (n := i + 1) (by omega) (by omega)]
  refine ⟨⟨i0, by omega⟩, by omega, ⟨i0, by omega⟩, by omega, ⟨i + 1, by omega, by omega, ?_⟩, by omega⟩
  have : i = 0 ∨ i = 1 ∨ i = 2 ∨ i = 3 := by omega
  rcases this with rfl | rfl | rfl | rfl <;> rfl
 ·have hc := of_decide_eq_false hc
  have : i = 4 := by omega
  subst this
  rfl
theorem IQ.at (h : IQ P) {w : Bb} {K : Bb → Unit → Prop} (hk : K (GM w) ()) : Fn P XE AR w K :=
 (h w).to fun (q : Bb) _ hq => by
  have hq : q = GM w := hq
  subst hq
  exact hk
end Go.VS
