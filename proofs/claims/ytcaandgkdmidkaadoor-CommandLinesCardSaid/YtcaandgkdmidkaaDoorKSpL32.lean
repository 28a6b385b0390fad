/- The statements about commands. -/
import Derived.Test.YtcaandgkdmidkaaDoorKSpRp
import Derived.Test.YtcaandgkdmidkaaDoorKSpLn
set_option linter.unusedVariables false
set_option linter.unusedSimpArgs false
namespace Go.VS
variable {P : Pg}
def MC (c : Command) : Prop := ∃ f, f ∈ AL ∧ Bo c f = true ∧ okC f c ∧ c.2.2.2.2.2.length ≤ 3
theorem Wj {f : Al} {p : UInt8} (h : p ∈ KI f) : p = 97 ∨ (p = 98 ∧ f.2.2.2.1 = true) ∨ (p = 99 ∧ f.2.2.2.2.1 = true) ∨ (p = 116 ∧ f.2.2.2.2.2 = true) := by
 obtain ⟨wd, kd, dn, b, c, tx⟩ := f
 cases b <;> cases c <;> cases tx <;> simp [KI] at h <;> simp [h] <;> (rcases h with h | h | h | h <;> simp [h])
theorem UO {k : Int} {d : Bool} (h1 : 1 ≤ k) (h2 : k ≤ 9) (h3 : d = true → k = 4) : ∃ f, f ∈ AL ∧ f.2.1 = k ∧ f.2.2.1 = d ∧ G7 (k, d) = (f.1, KI f) := by
 have hm : ∀ k : Nat, k < 9 → ∀ d : Bool, (d = true → k = 3) → ∃ f, f ∈ AL ∧ f.2.1 = (k : Int) + 1 ∧ f.2.2.1 = d := by decide
 obtain ⟨f, f1, f2, f3⟩ := hm (k - 1).toNat (by omega) d (fun h => by have := h3 h; omega)
 refine ⟨f, f1, by omega, f3, ?_⟩
 have := S9 f f1
 rw [show f.2.1 = k by omega, f3] at this
 exact this
structure Md (f : Al) (q : Command) : Prop where
 g1 : q.1 = f.2.1
 g2 : q.2.2.2.2.1 = f.2.2.1
 gA : 0 ≤ q.2.1 ∧ q.2.1 < 12
 gB : 0 ≤ q.2.2.1 ∧ q.2.2.1 < 12
 gC : 0 ≤ q.2.2.2.1 ∧ q.2.2.2.1 < 12
 gb : f.2.2.2.1 = false → q.2.2.1 = 0
 gc : f.2.2.2.2.1 = false → q.2.2.2.1 = 0
 gt : f.2.2.2.2.2 = false → q.2.2.2.2.2 = []
 gl : q.2.2.2.2.2.length ≤ 3
theorem Md.a {f : Al} {k A B C n : Int} {d : Bool} {t : Bs} (h : Md f (k, (A, (B, (C, (d, t)))))) (hn : 0 ≤ n ∧ n < 12) : Md f (k, (n, (B, (C, (d, t))))) := ⟨h.g1, h.g2, hn, h.gB, h.gC, h.gb, h.gc, h.gt, h.gl⟩
theorem Md.b {f : Al} {k A B C n : Int} {d : Bool} {t : Bs} (h : Md f (k, (A, (B, (C, (d, t)))))) (hn : 0 ≤ n ∧ n < 12) (hb : f.2.2.2.1 = true) : Md f (k, (A, (n, (C, (d, t))))) := ⟨h.g1, h.g2, h.gA, hn, h.gC, fun e => (by rw [hb] at e; cases e), h.gc, h.gt, h.gl⟩
theorem Md.c {f : Al} {k A B C n : Int} {d : Bool} {t : Bs} (h : Md f (k, (A, (B, (C, (d, t)))))) (hn : 0 ≤ n ∧ n < 12) (hb : f.2.2.2.2.1 = true) : Md f (k, (A, (B, (n, (d, t))))) := ⟨h.g1, h.g2, h.gA, h.gB, hn, h.gb, fun e => (by rw [hb] at e; cases e), h.gt, h.gl⟩
theorem Md.t {f : Al} {k A B C : Int} {d : Bool} {t u : Bs} (h : Md f (k, (A, (B, (C, (d, t)))))) (hn : u.length ≤ 3) (hb : f.2.2.2.2.2 = true) : Md f (k, (A, (B, (C, (d, u))))) := ⟨h.g1, h.g2, h.gA, h.gB, h.gC, h.gb, h.gc, fun e => (by rw [hb] at e; cases e), hn⟩
theorem Md.z {f : Al} {k : Int} {d : Bool} (h1 : f.2.1 = k) (h2 : f.2.2.1 = d) : Md f (k, (0, (0, (0, (d, []))))) := ⟨h1.symm, h2.symm, ⟨Int.le_refl 0, (show (0 : Int) < 12 by decide)⟩, ⟨Int.le_refl 0, (show (0 : Int) < 12 by decide)⟩, ⟨Int.le_refl 0, (show (0 : Int) < 12 by decide)⟩, fun _ => rfl, fun _ => rfl, fun _ => rfl, Nat.zero_le _⟩
theorem Md.mc {f : Al} {q : Command} (h : Md f q) (hf : f ∈ AL) : MC q := by
 obtain ⟨k, A, B, C, dd, t⟩ := q
 have gA := h.gA; have gB := h.gB; have gC := h.gC
 dsimp only at gA gB gC
 refine ⟨f, hf, ?_, ⟨fun o ho => ?_, h.gb, h.gc, h.gt⟩, h.gl⟩
 ·have := h.g1; have := h.g2; simp_all [Bo]
 ·have : Cy o (k, (A, (B, (C, (dd, t))))) = A ∨ Cy o (k, (A, (B, (C, (dd, t))))) = B ∨ Cy o (k, (A, (B, (C, (dd, t))))) = C := by
   unfold Cy
   split
   ·exact .inl rfl
   ·split
    ·exact .inr (.inl rfl)
    ·exact .inr (.inr rfl)
  rcases this with e | e | e <;> rw [e] <;> exact ⟨by omega, by omega⟩
def Gn (P : Pg) : Prop := ∀ x : List Int × Int, 0 ≤ x.2 → x.2 ≤ 1000000 → Fn P RN BU x fun (d : Command) _ => MC d
theorem TY (h : Has P ER) (hA : Pc P) (hM : Iz P) (hF : Gm P) (hL : Oq P) : Gn P := by
 rintro ⟨raw, fr⟩ h0 h1
 dsimp only at h0 h1
 refine Na h ?_
 unfold Jc
 dsimp only
 refine hA.at h0 (hM.at (by decide) (by decide) ?_)
 have hr := IP (a := atF raw fr) (n := 9) (by decide) (by decide)
 generalize Nq (atF raw fr) 9 = m at hr ⊢
 rw [w64 (n := 1 + m) (by omega) (by omega), w64 (n := fr + 1) (by omega) (by omega), w64 (n := fr + 2) (by omega) (by omega)]
 refine Ao.mid (fun _ => True) ⟨fun _ => hA.at (by omega) trivial, fun _ => trivial, trivial⟩ ?_
 intro d7 _
 refine ⟨fun _ => by decide, ?_⟩
 obtain ⟨dn, hdn⟩ : ∃ dn, cond (1 + m == (4 : Int)) (Int.tmod d7 2 == 0) false = dn := ⟨_, rfl⟩
 rw [hdn]
 have hd4 : dn = true → 1 + m = 4 := fun hd => by
  subst hd
  by_cases e : 1 + m = 4
  ·exact e
  ·rw [show (1 + m == (4 : Int)) = false by simpa using e] at hdn
   cases hdn
 obtain ⟨f, f1, f2, f3, f4⟩ := UO (k := 1 + m) (d := dn) (by omega) (by omega) hd4
 refine (hF _).to ?_
 rintro (d : Bs × Bs) _ hd
 have hd : d = G7 (1 + m, cond (1 + m == (4 : Int)) (Int.tmod d7 2 == 0) false) := hd
 rw [hdn, f4] at hd
 subst hd
 dsimp only
 have hpl := Sn f
 refine Ao.mid MC ?_ fun _ h => h
 refine Dm.of (fun q => (0 ≤ q.1 ∧ q.1 ≤ (KI f).length) ∧ Md f q.2) (fun q => ((KI f).length - q.1).toNat) ⟨⟨Int.le_refl _, by dsimp only; omega⟩, Md.z f2 f3⟩ ?_
 rintro ⟨i, k, A, B, C, dd, t⟩ ⟨⟨i0, i1⟩, hmd⟩
 dsimp only at i0 i1 hmd ⊢
 refine ⟨fun hc => ?_, fun hc => ?_⟩
 ·have hc := of_decide_eq_true hc
  have hi : i.toNat < (KI f).length := by omega
  rw [w64 (n := fr + 2 + i) (by omega) (by omega)]
  refine Ao.mid (Md f) (hA.at (by omega) (hM.at (by decide) (by decide) ⟨⟨i0, hc⟩, Ao.of (Ao.of ?_)⟩)) ?_
  ·have hr := IP (a := atF raw (fr + 2 + i)) (n := 12) (by decide) (by decide)
   generalize Nq (atF raw (fr + 2 + i)) 12 = n at hr ⊢
   have hp := Wj (PM (d := 0) hi)
   generalize (KI f).getD i.toNat 0 = p at hp ⊢
   refine ⟨fun _ => hmd.a hr, fun h97 => Ao.of ⟨fun h98 => ?_, fun h98 => Ao.of ⟨fun h99 => ?_, fun h99 => ?_⟩⟩⟩
   ·have hp2 : p = 98 := UInt8.toNat_inj.1 (by rw [show (98 : UInt8).toNat = 98 from rfl]; simp at h98; omega)
    subst hp2
    have hb : f.2.2.2.1 = true := by rcases hp with hp | ⟨_, hp⟩ | ⟨hp, _⟩ | ⟨hp, _⟩ <;> first | exact hp | exact absurd hp (by decide)
    exact hmd.b hr hb
   ·have hp3 : p = 99 := UInt8.toNat_inj.1 (by rw [show (99 : UInt8).toNat = 99 from rfl]; simp at h99; omega)
    subst hp3
    have hb : f.2.2.2.2.1 = true := by rcases hp with hp | ⟨hp, _⟩ | ⟨_, hp⟩ | ⟨hp, _⟩ <;> first | exact hp | exact absurd hp (by decide)
    exact hmd.c hr hb
   ·have e1 : p ≠ 97 := fun h => by subst h; simp at h97
    have e2 : p ≠ 98 := fun h => by subst h; simp at h98
    have e3 : p ≠ 99 := fun h => by subst h; simp at h99
    have ht : f.2.2.2.2.2 = true := by
     rcases hp with hp | ⟨hp, _⟩ | ⟨hp, _⟩ | ⟨_, hp⟩
     ·exact absurd hp e1
     ·exact absurd hp e2
     ·exact absurd hp e3
     ·exact hp
    refine (hL n).to ?_
    rintro (d : Bs) _ hd
    exact hmd.t hd ht
  ·intro q hq
   rw [w64 (by omega) (by omega)]
   exact ⟨⟨⟨by omega, by omega⟩, hq⟩, by omega⟩
 ·exact hmd.mc f1
theorem MC.fmt {c : Command} (h : MC c) : ∃ t, DN c = (t, 0) ∧ t.length ≤ 60 := by
 obtain ⟨f, f1, f2, f3, f4⟩ := h
 refine ⟨_, UE f1 f2 f3, ?_⟩
 rw [KF f1 f3]
 have h1 : ∀ f ∈ AL, f.1.length ≤ 8 := by decide
 have h2 := h1 f f1
 have h3 := JF f c 3
 have h4 := FA c.2.2.2.2.2
 unfold Gu
 rw [List.length_append]
 split
 ·rw [List.length_cons]; omega
 ·rw [List.length_nil]; omega
theorem MC.len {c : Command} (h : MC c) : c.2.2.2.2.2.length ≤ 3 := by
 obtain ⟨f, _, _, _, f4⟩ := h
 exact f4
theorem XF : DN (7, (3, (0, (2, (false, [120]))))) = ([108, 105, 110, 101, 115, 32, 51, 32, 48, 32, 50, 32, 120], 0) := by
 have d3 : B5 3 = [51] := by unfold B5; rw [if_neg (by decide), show (3 : Int).toNat = 3 from rfl, Lib.decDigits]; rfl
 have d0 : B5 0 = [48] := by unfold B5; rw [if_neg (by decide), show (0 : Int).toNat = 0 from rfl, Lib.decDigits]; rfl
 have d2 : B5 2 = [50] := by unfold B5; rw [if_neg (by decide), show (2 : Int).toNat = 2 from rfl, Lib.decDigits]; rfl
 have hq : Ar [120] = [120] := by decide
 rw [UE (f := ([108, 105, 110, 101, 115], (7, (false, (true, (true, true)))))) (by decide) (by decide) (by decide), KF (by decide) (by decide)]
 simp [Gu, Dk, Bc, Cy, d3, d0, d2, hq]
theorem XG (c : Command) : DN c ≠ ([108, 111, 103, 32, 48, 49], 0) := by
 intro h
 obtain ⟨f, m1, m2, m3, m4⟩ := Hn h
 have h1 := Ej (C9 f c)
 have h2 := Ej [[108, 111, 103], [48, 49]]
 have e : jq [[108, 111, 103], [48, 49]] = [108, 111, 103, 32, 48, 49] := by decide
 rw [e] at h2
 rw [← m4, h2] at h1
 have h3 := congrArg (fun x => x.1.getD 1 []) h1
 have h4 : [48, 49] = B5 (Cy 1 c) := h3
 have h5 := P6 (m3.1 1 (by simp [Bc]))
 rw [← h4] at h5
 exact absurd h5 (by rw [show HD [48, 49] = none by decide]; simp)
theorem Gj.at (h : Gj P) {s : Bs} (hs : s.length ≤ 100000) {K : Command × Int → Unit → Prop} (hk : ∀ d, KW s d → K d ()) : Fn P zS2 AZ s K :=
 (h s hs).to fun (d : Command × Int) _ hd => hk d hd
theorem Ey.at (h : Ey P) {c : Command} (hs : c.2.2.2.2.2.length ≤ 100000) {K : Bs × Int → Unit → Prop} (hk : K (DN c) ()) : Fn P Ud A5 c K :=
 (h c hs).to fun (d : Bs × Int) _ hd => by
  have hd : d = DN c := hd
  subst hd
  exact hk
def Fi (P : Pg) : Prop := Fn P zS7 Bg () fun (d : Bool) _ => d = true
theorem RB (h : Has P Ek) (hP : Gj P) : Fi P := by
 refine Ma h ?_
 unfold Im
 refine hP.at (by decide) fun d hd => hP.at (by decide) fun d' hd' => ?_
 have e := hd.eq (.inl ⟨rfl, XF⟩ : KW _ ((7, (3, (0, (2, (false, [120]))))), 0))
 have e' := hd'.eq (.inr ⟨rfl, XG⟩)
 rw [e, e']
 rfl
theorem Fi.at (h : Fi P) {K : Bool → Unit → Prop} (hk : K true ()) : Fn P zS7 Bg () K :=
 Fn.to h fun (d : Bool) _ hd => by
  have hd : d = true := hd
  subst hd
  exact hk
theorem Gn.at (h : Gn P) {raw : List Int} {n : Int} (h0 : 0 ≤ n) (h1 : n ≤ 1000000) {K : Command → Unit → Prop} (hk : ∀ d, MC d → K d ()) : Fn P RN BU (raw, n) K :=
 (h (raw, n) h0 h1).to fun (d : Command) _ hd => hk d hd
end Go.VS
