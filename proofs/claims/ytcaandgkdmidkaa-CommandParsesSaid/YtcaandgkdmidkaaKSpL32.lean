/- The statements about commands. -/
import Derived.Test.YtcaandgkdmidkaaKSpRp
import Derived.Test.YtcaandgkdmidkaaKSpSpo
set_option linter.unusedVariables false
set_option linter.unusedSimpArgs false
namespace Go.VS
variable {P : Pg}
def MC (c : Command) : Prop := ∃ f, f ∈ AN ∧ Cf c f = true ∧ okC f c ∧ c.2.2.2.2.2.length ≤ 3
theorem WT {f : Ao} {p : UInt8} (h : p ∈ Ej f) : p = 97 ∨ (p = 98 ∧ f.2.2.2.1 = true) ∨ (p = 99 ∧ f.2.2.2.2.1 = true) ∨ (p = 116 ∧ f.2.2.2.2.2 = true) := by
 obtain ⟨wd, kd, dn, b, c, tx⟩ := f
 cases b <;> cases c <;> cases tx <;> simp [Ej] at h <;> simp [h] <;> (rcases h with h | h | h | h <;> simp [h])
theorem Vj {k : Int} {d : Bool} (h1 : 1 ≤ k) (h2 : k ≤ 9) (h3 : d = true → k = 4) : ∃ f, f ∈ AN ∧ f.2.1 = k ∧ f.2.2.1 = d ∧ DS (k, d) = (f.1, Ej f) := by
 have hm : ∀ k : Nat, k < 9 → ∀ d : Bool, (d = true → k = 3) → ∃ f, f ∈ AN ∧ f.2.1 = (k : Int) + 1 ∧ f.2.2.1 = d := by decide
 obtain ⟨f, f1, f2, f3⟩ := hm (k - 1).toNat (by omega) d (fun h => by have := h3 h; omega)
 refine ⟨f, f1, by omega, f3, ?_⟩
 have := Oo f f1
 rw [show f.2.1 = k by omega, f3] at this
 exact this
structure Md (f : Ao) (q : Command) : Prop where
 g1 : q.1 = f.2.1
 g2 : q.2.2.2.2.1 = f.2.2.1
 gA : 0 ≤ q.2.1 ∧ q.2.1 < 12
 gB : 0 ≤ q.2.2.1 ∧ q.2.2.1 < 12
 gC : 0 ≤ q.2.2.2.1 ∧ q.2.2.2.1 < 12
 gb : f.2.2.2.1 = false → q.2.2.1 = 0
 gc : f.2.2.2.2.1 = false → q.2.2.2.1 = 0
 gt : f.2.2.2.2.2 = false → q.2.2.2.2.2 = []
 gl : q.2.2.2.2.2.length ≤ 3
theorem Md.a {f : Ao} {k A B C n : Int} {d : Bool} {t : Bs} (h : Md f (k, (A, (B, (C, (d, t)))))) (hn : 0 ≤ n ∧ n < 12) : Md f (k, (n, (B, (C, (d, t))))) := ⟨h.g1, h.g2, hn, h.gB, h.gC, h.gb, h.gc, h.gt, h.gl⟩
theorem Md.b {f : Ao} {k A B C n : Int} {d : Bool} {t : Bs} (h : Md f (k, (A, (B, (C, (d, t)))))) (hn : 0 ≤ n ∧ n < 12) (hb : f.2.2.2.1 = true) : Md f (k, (A, (n, (C, (d, t))))) := ⟨h.g1, h.g2, h.gA, hn, h.gC, fun e => (by rw [hb] at e; cases e), h.gc, h.gt, h.gl⟩
theorem Md.c {f : Ao} {k A B C n : Int} {d : Bool} {t : Bs} (h : Md f (k, (A, (B, (C, (d, t)))))) (hn : 0 ≤ n ∧ n < 12) (hb : f.2.2.2.2.1 = true) : Md f (k, (A, (B, (n, (d, t))))) := ⟨h.g1, h.g2, h.gA, h.gB, hn, h.gb, fun e => (by rw [hb] at e; cases e), h.gt, h.gl⟩
theorem Md.t {f : Ao} {k A B C : Int} {d : Bool} {t u : Bs} (h : Md f (k, (A, (B, (C, (d, t)))))) (hn : u.length ≤ 3) (hb : f.2.2.2.2.2 = true) : Md f (k, (A, (B, (C, (d, u))))) := ⟨h.g1, h.g2, h.gA, h.gB, h.gC, h.gb, h.gc, fun e => (by rw [hb] at e; cases e), hn⟩
theorem Md.z {f : Ao} {k : Int} {d : Bool} (h1 : f.2.1 = k) (h2 : f.2.2.1 = d) : Md f (k, (0, (0, (0, (d, []))))) := ⟨h1.symm, h2.symm, ⟨Int.le_refl 0, (show (0 : Int) < 12 by decide)⟩, ⟨Int.le_refl 0, (show (0 : Int) < 12 by decide)⟩, ⟨Int.le_refl 0, (show (0 : Int) < 12 by decide)⟩, fun _ => rfl, fun _ => rfl, fun _ => rfl, Nat.zero_le _⟩
theorem Md.mc {f : Ao} {q : Command} (h : Md f q) (hf : f ∈ AN) : MC q := by
 obtain ⟨k, A, B, C, dd, t⟩ := q
 have gA := h.gA; have gB := h.gB; have gC := h.gC
 dsimp only at gA gB gC
 refine ⟨f, hf, ?_, ⟨fun o ho => ?_, h.gb, h.gc, h.gt⟩, h.gl⟩
 ·have := h.g1; have := h.g2; simp_all [Cf]
 ·have : CB o (k, (A, (B, (C, (dd, t))))) = A ∨ CB o (k, (A, (B, (C, (dd, t))))) = B ∨ CB o (k, (A, (B, (C, (dd, t))))) = C := by
   unfold CB
   split
   ·exact .inl rfl
   ·split
    ·exact .inr (.inl rfl)
    ·exact .inr (.inr rfl)
  rcases this with e | e | e <;> rw [e] <;> exact ⟨by omega, by omega⟩
def GD (P : Pg) : Prop := ∀ x : List Int × Int, 0 ≤ x.2 → x.2 ≤ 1000000 → Fn P UK BZ x fun (d : Command) _ => MC d
theorem Uz (h : Has P E6) (hA : PV P) (hM : I7 P) (hF : EO P) (hL : O7 P) : GD P := by
 rintro ⟨raw, fr⟩ h0 h1
 dsimp only at h0 h1
 refine NP h ?_
 unfold JE
 dsimp only
 refine hA.at h0 (hM.at (by decide) (by decide) ?_)
 have hr := G2 (a := atF raw fr) (n := 9) (by decide) (by decide)
 generalize LS (atF raw fr) 9 = m at hr ⊢
 rw [w64 (n := 1 + m) (by omega) (by omega), w64 (n := fr + 1) (by omega) (by omega), w64 (n := fr + 2) (by omega) (by omega)]
 refine Ai.mid (fun _ => True) ⟨fun _ => hA.at (by omega) trivial, fun _ => trivial, trivial⟩ ?_
 intro d7 _
 refine ⟨fun _ => by decide, ?_⟩
 obtain ⟨dn, hdn⟩ : ∃ dn, cond (1 + m == (4 : Int)) (Int.tmod d7 2 == 0) false = dn := ⟨_, rfl⟩
 rw [hdn]
 have hd4 : dn = true → 1 + m = 4 := fun hd => by
  subst hd
  by_cases e : 1 + m = 4
  ·exact e
  ·rw [show (1 + m == (4 : Int)) = false by simpa using e] at hdn
   cases hdn
 obtain ⟨f, f1, f2, f3, f4⟩ := Vj (k := 1 + m) (d := dn) (by omega) (by omega) hd4
 refine (hF _).to ?_
 rintro (d : Bs × Bs) _ hd
 have hd : d = DS (1 + m, cond (1 + m == (4 : Int)) (Int.tmod d7 2 == 0) false) := hd
 rw [hdn, f4] at hd
 subst hd
 dsimp only
 have hpl := S9 f
 refine Ai.mid MC ?_ fun _ h => h
 refine BP.of (fun q => (0 ≤ q.1 ∧ q.1 ≤ (Ej f).length) ∧ Md f q.2) (fun q => ((Ej f).length - q.1).toNat) ⟨⟨Int.le_refl _, by dsimp only; omega⟩, Md.z f2 f3⟩ ?_
 rintro ⟨i, k, A, B, C, dd, t⟩ ⟨⟨i0, i1⟩, hmd⟩
 dsimp only at i0 i1 hmd ⊢
 refine ⟨fun hc => ?_, fun hc => ?_⟩
 ·have hc := of_decide_eq_true hc
  have hi : i.toNat < (Ej f).length := by omega
  rw [w64 (n := fr + 2 + i) (by omega) (by omega)]
  refine Ai.mid (Md f) (hA.at (by omega) (hM.at (by decide) (by decide) ⟨⟨i0, hc⟩, Ai.of (Ai.of ?_)⟩)) ?_
  ·have hr := G2 (a := atF raw (fr + 2 + i)) (n := 12) (by decide) (by decide)
   generalize LS (atF raw (fr + 2 + i)) 12 = n at hr ⊢
   have hp := WT (MP (d := 0) hi)
   generalize (Ej f).getD i.toNat 0 = p at hp ⊢
   refine ⟨fun _ => hmd.a hr, fun h97 => Ai.of ⟨fun h98 => ?_, fun h98 => Ai.of ⟨fun h99 => ?_, fun h99 => ?_⟩⟩⟩
   ·have hp2 : p = 98 := UInt8.toNat_inj.1 (by rw [show (98 : UInt8).toNat = 98 from rfl]; simp at h98; omega)
    subst hp2
    have hb : f.2.2.2.1 = true := by rcases hp with hp | ⟨_, hp⟩ | ⟨hp, _⟩ | ⟨hp, _⟩ <;> first | exact hp | exact absurd hp (by decide)
    exact hmd.b hr hb
   ·have hp3 : p = 99 := UInt8.toNat_inj.1 (by rw [show (99 : UInt8).toNat = 99 from rfl]; simp at h99; omega)
    subst hp3
    have hb : f.2.2.2.2.1 = true := by rcases hp with hp | ⟨hp, _⟩ | ⟨_, hp⟩ | ⟨hp, _⟩ <;> first | exact hp | exact absurd hp (by decide)
    exact hmd.c hr hb
   ·have e1 : p ≠ 97 := fun h => by subst h; simp at h97
    have e2 : p ≠ 98 := fun h => by subst h; simp at h98
    have e3 : p ≠ 99 := fun h => by subst h; simp at h99
    have ht : f.2.2.2.2.2 = true := by
     rcases hp with hp | ⟨hp, _⟩ | ⟨hp, _⟩ | ⟨_, hp⟩
     ·exact absurd hp e1
     ·exact absurd hp e2
     ·exact absurd hp e3
     ·exact hp
    refine (hL n).to ?_
    rintro (d : Bs) _ hd
    exact hmd.t hd ht
  ·intro q hq
   rw [w64 (by omega) (by omega)]
   exact ⟨⟨⟨by omega, by omega⟩, hq⟩, by omega⟩
 ·exact hmd.mc f1
theorem MC.fmt {c : Command} (h : MC c) : ∃ t, FH c = (t, 0) ∧ t.length ≤ 60 := by
 obtain ⟨f, f1, f2, f3, f4⟩ := h
 refine ⟨_, RG f1 f2 f3, ?_⟩
 rw [Iv f1 f3]
 have h1 : ∀ f ∈ AN, f.1.length ≤ 8 := by decide
 have h2 := h1 f f1
 have h3 := VA f c 3
 have h4 := Jp c.2.2.2.2.2
 unfold Kb
 rw [List.length_append]
 split
 ·rw [List.length_cons]; omega
 ·rw [List.length_nil]; omega
theorem MC.len {c : Command} (h : MC c) : c.2.2.2.2.2.length ≤ 3 := by
 obtain ⟨f, _, _, _, f4⟩ := h
 exact f4
theorem Yg : FH (7, (3, (0, (2, (false, [120]))))) = ([108, 105, 110, 101, 115, 32, 51, 32, 48, 32, 50, 32, 120], 0) := by
 have d3 : B6 3 = [51] := by unfold B6; rw [if_neg (by decide), show (3 : Int).toNat = 3 from rfl, Lib.decDigits]; rfl
 have d0 : B6 0 = [48] := by unfold B6; rw [if_neg (by decide), show (0 : Int).toNat = 0 from rfl, Lib.decDigits]; rfl
 have d2 : B6 2 = [50] := by unfold B6; rw [if_neg (by decide), show (2 : Int).toNat = 2 from rfl, Lib.decDigits]; rfl
 have hq : Av [120] = [120] := by decide
 rw [RG (f := ([108, 105, 110, 101, 115], (7, (false, (true, (true, true)))))) (by decide) (by decide) (by decide), Iv (by decide) (by decide)]
 simp [Kb, OK, Bg, CB, d3, d0, d2, hq]
theorem Yh (c : Command) : FH c ≠ ([108, 111, 103, 32, 48, 49], 0) := by
 intro h
 obtain ⟨f, m1, m2, m3, m4⟩ := GG h
 have h1 := DO (Bp f c)
 have h2 := DO [[108, 111, 103], [48, 49]]
 have e : jq [[108, 111, 103], [48, 49]] = [108, 111, 103, 32, 48, 49] := by decide
 rw [e] at h2
 rw [← m4, h2] at h1
 have h3 := congrArg (fun x => x.1.getD 1 []) h1
 have h4 : [48, 49] = B6 (CB 1 c) := h3
 have h5 := Nb (m3.1 1 (by simp [Bg]))
 rw [← h4] at h5
 exact absurd h5 (by rw [show Hv [48, 49] = none by decide]; simp)
theorem Fs.at (h : Fs P) {s : Bs} (hs : s.length ≤ 100000) {K : Command × Int → Unit → Prop} (hk : ∀ d, IP s d → K d ()) : Fn P zS0 AD s K :=
 (h s hs).to fun (d : Command × Int) _ hd => hk d hd
theorem Fx.at (h : Fx P) {s : Bs} (hs : s.length ≤ 100000) {K : Command × Int → Unit → Prop} (hk : ∀ d, IP s d → K d ()) : Fn P zS7 A1 s K :=
 (h s hs).to fun (d : Command × Int) _ hd => hk d hd
theorem DQ.at (h : DQ P) {c : Command} (hs : c.2.2.2.2.2.length ≤ 100000) {K : Bs × Int → Unit → Prop} (hk : K (FH c) ()) : Fn P Rq A6 c K :=
 (h c hs).to fun (d : Bs × Int) _ hd => by
  have hd : d = FH c := hd
  subst hd
  exact hk
def Fy (P : Pg) : Prop := Fn P zS9 Bh () fun (d : Bool) _ => d = true
theorem Sn (h : Has P Ez) (hP : Fs P) : Fy P := by
 refine MB h ?_
 unfold IV
 refine hP.at (by decide) fun d hd => hP.at (by decide) fun d' hd' => ?_
 have e := hd.eq (.inl ⟨rfl, Yg⟩ : IP _ ((7, (3, (0, (2, (false, [120]))))), 0))
 have e' := hd'.eq (.inr ⟨rfl, Yh⟩)
 rw [e, e']
 rfl
theorem Fy.at (h : Fy P) {K : Bool → Unit → Prop} (hk : K true ()) : Fn P zS9 Bh () K :=
 Fn.to h fun (d : Bool) _ hd => by
  have hd : d = true := hd
  subst hd
  exact hk
theorem GD.at (h : GD P) {raw : List Int} {n : Int} (h0 : 0 ≤ n) (h1 : n ≤ 1000000) {K : Command → Unit → Prop} (hk : ∀ d, MC d → K d ()) : Fn P UK BZ (raw, n) K :=
 (h (raw, n) h0 h1).to fun (d : Command) _ hd => hk d hd
theorem Lg (h : Has P Cb) (hMd : GD P) (hF : DQ P) (hS : Hz P) (hP : Fs P) (hR : Fx P) (hAw : Fy P) (x : Bs × (List Int × (Int × (Int × Int)))) :
  Fn P Yd AJ x fun (d : Bool) _ => d = true := by
 obtain ⟨s, raw, what, at_, c⟩ := x
 refine GY h ?_
 unfold Ek
 dsimp only
 refine ⟨fun _ => hAw.at rfl, fun hc => ?_⟩
 have hc := of_decide_eq_false hc
 refine hMd.at (by decide) (by decide) fun x hx => ?_
 have hxl := hx.len
 obtain ⟨t, ht, htl⟩ := hx.fmt
 refine hF.at (by omega) ?_
 rw [ht]
 refine (hS (t, (what, (at_, c))) (by dsimp only; omega)).to ?_
 rintro (u : Bs) _ hu
 have hu : u.length ≤ t.length + 1 := hu
 refine hP.at (by omega) fun d1 h1 => hR.at (by omega) fun d2 h2 => hP.at (by dsimp only; omega) fun d3 h3 => hR.at (by dsimp only; omega) fun d4 h4 => hP.at (by omega) fun d5 h5 => hR.at (by omega) fun d6 h6 => ?_
 have e1 := h1.eq h2
 have e2 := h3.eq h4
 have e3 := h5.eq h6
 subst e1 e2 e3
 simp only [beq_self_eq_true, cond_true, Bool.and_true]
 refine Ai.mid (fun d => d = true) ⟨fun _ => hAw.at rfl, fun hc => absurd hc (by simp), trivial⟩ ?_
 rintro d rfl
 rfl
end Go.VS
