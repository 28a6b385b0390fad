/- Commands in the document: the reader. -/
import Derived.Test.YtcaandgkdmidkaaDoorKSpRc
set_option linter.unusedVariables false
set_option linter.unusedSimpArgs false
namespace Go.VS
variable {P : Pg}
def ZW (n : Int) (w : Bs) (p : UInt8) (q : Command) : Command :=
 if p = 97 then (q.1, (n, q.2.2)) else if p = 98 then (q.1, (q.2.1, (n, q.2.2.2))) else if p = 99 then (q.1, (q.2.1, (q.2.2.1, (n, q.2.2.2.2)))) else (q.1, (q.2.1, (q.2.2.1, (q.2.2.2.1, (q.2.2.2.2.1, w)))))
def Z5 (l : List Bs) (parts : Bs) (c0 : Command) : Nat → Command
 | 0 => c0
 | i + 1 => ZW (Gw (l.getD (i + 1) [], 0)).1 (l.getD (i + 1) []) (parts.getD i 0) (Z5 l parts c0 i)
theorem Za {n : Int} (h : inC n) : (Gw (B5 n, 0)).1 = n := by
 have := P6 h
 unfold HD at this
 split at this
 ·exact Option.some.inj this
 ·cases this
theorem AbO {f : Al} {c : Command} (h1 : Bo c f = true) (h2 : okC f c) : Z5 (C9 f c) (KI f) (f.2.1, (0, (0, (0, (f.2.2.1, []))))) (KI f).length = c := by
 obtain ⟨wd, kd, dn, b, c', tx⟩ := f
 obtain ⟨k, A, B, C, d, t⟩ := c
 obtain ⟨h5, h3, h4, h6⟩ := h2
 have h1 : kd = k ∧ dn = d := by simpa [Bo] using h1
 obtain ⟨rfl, rfl⟩ := h1
 dsimp only at h3 h4 h5 h6
 have hA : (Gw (B5 A, 0)).1 = A := Za (h5 1 (by simp [Bc]))
 cases b <;> cases c' <;> cases tx
 ·have h3 := h3 rfl
  have h4 := h4 rfl
  have h6 := h6 rfl
  subst h3 h4 h6
  simp [Z5, KI, C9, Bc, ZW, Cy, hA]
 ·have h3 := h3 rfl
  have h4 := h4 rfl
  subst h3 h4
  simp [Z5, KI, C9, Bc, ZW, Cy, hA]
 ·have h3 := h3 rfl
  have h6 := h6 rfl
  subst h3 h6
  have hC : (Gw (B5 C, 0)).1 = C := Za (h5 3 (by simp [Bc]))
  simp [Z5, KI, C9, Bc, ZW, Cy, hA, hC]
 ·have h3 := h3 rfl
  subst h3
  have hC : (Gw (B5 C, 0)).1 = C := Za (h5 3 (by simp [Bc]))
  simp [Z5, KI, C9, Bc, ZW, Cy, hA, hC]
 ·have h4 := h4 rfl
  have h6 := h6 rfl
  subst h4 h6
  have hB : (Gw (B5 B, 0)).1 = B := Za (h5 2 (by simp [Bc]))
  simp [Z5, KI, C9, Bc, ZW, Cy, hA, hB]
 ·have h4 := h4 rfl
  subst h4
  have hB : (Gw (B5 B, 0)).1 = B := Za (h5 2 (by simp [Bc]))
  simp [Z5, KI, C9, Bc, ZW, Cy, hA, hB]
 ·have h6 := h6 rfl
  subst h6
  have hB : (Gw (B5 B, 0)).1 = B := Za (h5 2 (by simp [Bc]))
  have hC : (Gw (B5 C, 0)).1 = C := Za (h5 3 (by simp [Bc]))
  simp [Z5, KI, C9, Bc, ZW, Cy, hA, hB, hC]
 ·have hB : (Gw (B5 B, 0)).1 = B := Za (h5 2 (by simp [Bc]))
  have hC : (Gw (B5 C, 0)).1 = C := Za (h5 3 (by simp [Bc]))
  simp [Z5, KI, C9, Bc, ZW, Cy, hA, hB, hC]
theorem AbK : ∀ f ∈ AL, Zb f.1 = (f.2.1, f.2.2.1) := by decide
theorem S9 : ∀ f ∈ AL, G7 (f.2.1, f.2.2.1) = (f.1, KI f) := by decide
theorem AbZ (f : Al) (c : Command) : (C9 f c).length = (KI f).length + 1 := by
 unfold C9 KI Bc
 cases f.2.2.2.1 <;> cases f.2.2.2.2.1 <;> cases f.2.2.2.2.2 <;> simp
def Zt (P : Pg) : Prop := ∀ s : Bs, s.length ≤ 100000 → Fn P VM YK s fun (d : Command × Int) _ => KW s d
theorem AbG (h : Has P Zh) (hW : Aaj P) (hK : Z7 P) (hF : Gm P) (hN : ZI P) (hR : Ey P) : Zt P := by
 intro s hs
 refine AaF h ?_
 unfold Z3
 refine (hW s (by omega)).to ?_
 rintro (d : List Bs × Bool) _ hd
 have hd : d = Ei s := hd
 subst hd
 have hwl := Ub s
 rcases hw : Ei s with ⟨l, ok⟩
 rw [hw] at hwl
 dsimp only at hwl ⊢
 refine ⟨fun hc => ?_, fun hc => ?_⟩
 ·refine Ts fun l' hl' => ?_
  rw [hw] at hl'
  cases hl'
  have : (l.length : Int) = 0 := by simpa using hc
  exact List.eq_nil_of_length_eq_zero (by omega)
 simp at hc
 obtain ⟨hok, hne⟩ := hc
 subst hok
 obtain ⟨w0, ws, rfl⟩ : ∃ w0 ws, l = w0 :: ws := by
  cases l with
  | nil => simp at hne
  | cons a b => exact ⟨a, b, rfl⟩
 have hsq := RM hw
 have hwd : ∀ w ∈ w0 :: ws, w.length ≤ 100000 := fun w hm => by
  have := Q8 _ w hm
  rw [← hsq] at this
  omega
 have hback : ∀ c, DN c = (s, 0) → ∃ f, Zb w0 = (f.2.1, f.2.2.1) ∧ G7 (f.2.1, f.2.2.1) = (f.1, KI f) ∧ w0 :: ws = C9 f c ∧ Bo c f = true ∧ okC f c := by
  intro c hc
  obtain ⟨f, m1, m2, m3, m4⟩ := Hn hc
  have h1 := Ej (C9 f c)
  rw [← m4, hw] at h1
  have e : w0 :: ws = C9 f c := congrArg Prod.fst h1
  have e1 : w0 = f.1 := congrArg (fun l => l.headD []) e
  exact ⟨f, by rw [e1]; exact AbK f m1, S9 f m1, e, m2, m3⟩
 refine ⟨⟨by decide, by rw [List.length_cons]; omega⟩, by rw [List.length_cons]; exact Nat.succ_pos _, hK.at (w := w0) ?_⟩
 refine (hF (Zb w0)).to ?_
 rintro (d : Bs × Bs) _ hfr
 have hfr : d = G7 (Zb w0) := hfr
 obtain ⟨wd, parts⟩ := d
 have hpl := S8 (Zb w0)
 rw [← hfr] at hpl
 dsimp only at hpl ⊢
 rw [w64 (n := (parts.length : Int) + 1) (by omega) (by omega)]
 refine ⟨fun hb => ?_, fun hb => ?_⟩
 ·refine .inr ⟨rfl, fun c hc => ?_⟩
  obtain ⟨f, f1, f2, f3, f4, f5⟩ := hback c hc
  rw [f1, f2] at hfr
  have : parts = KI f := congrArg Prod.snd hfr
  rw [f3, AbZ, this] at hb
  simp at hb
 ·have hlen : ((w0 :: ws).length : Int) = parts.length + 1 := by simpa using hb
  refine Ao.mid (fun q => q = Z5 (w0 :: ws) parts ((Zb w0).1, (0, (0, (0, ((Zb w0).2, []))))) parts.length ∧ q.2.2.2.2.2.length ≤ 100000) ?_ ?_
  ·refine Dm.of (fun q => 0 ≤ q.1 ∧ q.1 ≤ parts.length ∧ q.2 = Z5 (w0 :: ws) parts ((Zb w0).1, (0, (0, (0, ((Zb w0).2, []))))) q.1.toNat ∧ q.2.2.2.2.2.2.length ≤ 100000) (fun q => (parts.length - q.1).toNat) ⟨Int.le_refl _, by dsimp only; omega, rfl, Nat.zero_le _⟩ ?_
   rintro ⟨i, c⟩ ⟨i0, i1, e, hcl⟩
   dsimp only at i0 i1 e hcl ⊢
   refine ⟨fun hcc => ?_, fun hcc => ?_⟩
   ·have hcc := of_decide_eq_true hcc
    have hi : (i + 1).toNat < (w0 :: ws).length := by omega
    rw [w64 (n := i + 1) (by omega) (by omega)]
    have hnx : Z5 (w0 :: ws) parts ((Zb w0).1, (0, (0, (0, ((Zb w0).2, []))))) (i.toNat + 1) = ZW (Gw ((w0 :: ws).getD (i + 1).toNat [], 0)).1 ((w0 :: ws).getD (i + 1).toNat []) (parts.getD i.toNat 0) c := by
     rw [Z5, ← e, show (i + 1).toNat = i.toNat + 1 by omega]
    have hwm := hwd _ (PM (d := ([] : Bs)) hi)
    refine Ao.mid (fun q => q = Z5 (w0 :: ws) parts ((Zb w0).1, (0, (0, (0, ((Zb w0).2, []))))) (i.toNat + 1) ∧ q.2.2.2.2.2.length ≤ 100000) ⟨⟨by omega, by omega⟩, hi, ?_⟩ ?_
    ·refine (Abp hN ((w0 :: ws).getD (i + 1).toNat [], 0) (by dsimp only; omega)).to ?_
     rintro (d : Int × (Int × Bool)) _ hd
     have hd : d = Gw ((w0 :: ws).getD (i + 1).toNat [], 0) := hd
     rw [hnx, ← hd]
     generalize parts.getD i.toNat 0 = p
     refine ⟨⟨i0, hcc⟩, Ao.of (Ao.of ⟨fun hp => ?_, fun hp => Ao.of ⟨fun hp2 => ?_, fun hp2 => Ao.of ⟨fun hp3 => ?_, fun hp3 => ?_⟩⟩⟩)⟩
     ·have hp : p = 97 := UInt8.toNat_inj.1 (by rw [show (97 : UInt8).toNat = 97 from rfl]; simp at hp; omega)
      subst hp
      exact ⟨rfl, hcl⟩
     ·have hp2 : p = 98 := UInt8.toNat_inj.1 (by rw [show (98 : UInt8).toNat = 98 from rfl]; simp at hp2; omega)
      subst hp2
      exact ⟨rfl, hcl⟩
     ·have hp3 : p = 99 := UInt8.toNat_inj.1 (by rw [show (99 : UInt8).toNat = 99 from rfl]; simp at hp3; omega)
      subst hp3
      exact ⟨rfl, hcl⟩
     ·have e1 : p ≠ 97 := fun h => by subst h; simp at hp
      have e2 : p ≠ 98 := fun h => by subst h; simp at hp2
      have e3 : p ≠ 99 := fun h => by subst h; simp at hp3
      refine ⟨⟨by omega, by omega⟩, hi, ?_, hwm⟩
      unfold ZW
      rw [if_neg e1, if_neg e2, if_neg e3]
    ·rintro q ⟨hq1, hq2⟩
     exact ⟨⟨by omega, by omega, by rw [show (i + 1).toNat = i.toNat + 1 by omega]; exact hq1, hq2⟩, by omega⟩
   ·have hcc := of_decide_eq_false hcc
    rw [show i.toNat = parts.length by omega] at e
    exact ⟨e, hcl⟩
  ·rintro q ⟨hq1, hq2⟩
   refine (hR q hq2).to ?_
   rintro (d : Bs × Int) _ hd
   have hd : d = DN q := hd
   refine ⟨fun hb => ?_, fun hb => ?_⟩
   ·refine .inr ⟨rfl, fun c hc => ?_⟩
    obtain ⟨f, f1, f2, f3, f4, f5⟩ := hback c hc
    rw [f1, f2] at hfr
    have hp : parts = KI f := congrArg Prod.snd hfr
    have hqc : q = c := by
     rw [hq1, f1, f3, hp]
     exact AbO f4 f5
    rw [hqc, hc] at hd
    rw [hd] at hb
    simp at hb
   ·refine .inl ⟨rfl, ?_⟩
    dsimp only
    rw [← hd]
    obtain ⟨d1, d2⟩ := d
    simp at hb
    rw [hb.1, hb.2]
end Go.VS
