/- Commands and their lines. -/
import Derived.Test.YtcaandgkdmidkaaKSpCw
set_option linter.unusedVariables false
set_option linter.unusedSimpArgs false
namespace Go.VS
def Bp (f : Ao) (c : Command) : List Bs := f.1 :: ((Bg f.2.2.2.1 f.2.2.2.2.1).map (fun o => B6 (CB o c)) ++ (if f.2.2.2.2.2 = true then [c.2.2.2.2.2] else []))
theorem Pt (a : Bs) : ∀ l : List Bs, jq (a :: l) = Av a ++ l.flatMap fun w => 32 :: Av w
 | [] => by rw [RR]; simp
 | b :: l => by
  rw [RS, Pt b l]
  simp
theorem Se : ∀ f ∈ AN, Av f.1 = f.1 := by decide
theorem Uk {n : Int} (h : inC n) : Av (B6 n) = B6 n := by
 obtain ⟨h1, _, h3, _⟩ := RH (n.toNat + 1) n.toNat (by omega)
 rw [L6 h.1 h.2]
 unfold Av
 rw [if_pos]
 have he : (Lib.decDigits n.toNat).isEmpty = false := by
  cases hh : Lib.decDigits n.toNat with
  | nil => exact absurd hh h3
  | cons => rfl
 rw [he]
 have hd : ∀ k : Nat, k < 256 → 48 ≤ k → k ≤ 57 → CO (UInt8.ofNat k) = true := by decide +kernel
 refine List.all_eq_true.2 fun b hb => ?_
 have := h1 b hb
 have h4 := hd b.toNat (UInt8.toNat_lt b) this.1 this.2
 rwa [UInt8.ofNat_toNat] at h4
theorem Iv {f : Ao} {c : Command} (hf : f ∈ AN) (h : okC f c) : jq (Bp f c) = Kb f c := by
 unfold Bp
 rw [Pt, Se f hf, List.flatMap_append]
 have h1 : ∀ l : List Nat, (∀ o ∈ l, inC (CB o c)) → (l.map fun o => B6 (CB o c)).flatMap (fun w => 32 :: Av w) = l.flatMap fun o => 32 :: B6 (CB o c) := by
  intro l
  induction l with
  | nil => intro _; rfl
  | cons o l ih =>
   intro ho
   rw [List.map_cons, List.flatMap_cons, List.flatMap_cons, ih fun q hq => ho q (List.mem_cons_of_mem _ hq), Uk (ho o (List.mem_cons_self ..))]
 rw [h1 _ h.1]
 unfold Kb OK
 rw [List.take_of_length_le (S0 _ _), List.append_assoc]
 congr 1
 congr 1
 split <;> simp
theorem WA : ∀ f ∈ AN, ∀ c : Command, Cf c f = true → AN.find? (Cf c) = some f := by
 intro f hf c h
 have hm : ∀ g ∈ AN, Cf c g = true → g = f := by
  have hu : ∀ f ∈ AN, ∀ g ∈ AN, f.2.1 = g.2.1 → f.2.2.1 = g.2.2.1 → g = f := by decide
  intro g hg hgf
  unfold Cf at h hgf
  simp only [Bool.and_eq_true, beq_iff_eq] at h hgf
  exact hu f hf g hg (by rw [h.1, hgf.1]) (by rw [h.2, hgf.2])
 cases hr : AN.find? (Cf c) with
 | none => exact absurd h (by simpa using List.find?_eq_none.1 hr f hf)
 | some g => rw [hm g (List.mem_of_find?_eq_some hr) (List.find?_some hr)]
theorem V8 : ∀ f ∈ AN, ∀ g ∈ AN, f.1 = g.1 → f = g := by decide
theorem GG {c : Command} {s : Bs} (h : FH c = (s, 0)) : ∃ f, f ∈ AN ∧ Cf c f = true ∧ okC f c ∧ s = jq (Bp f c) := by
 unfold FH at h
 split at h
 ·rename_i f hf
  split at h
  ·rename_i hok
   have hm := List.mem_of_find?_eq_some hf
   refine ⟨f, hm, List.find?_some hf, hok, ?_⟩
   rw [Iv hm hok]
   exact (congrArg Prod.fst h).symm
  ·exact absurd (congrArg Prod.snd h) (show ¬ (2 : Int) = 0 by decide)
 ·exact absurd (congrArg Prod.snd h) (show ¬ (2 : Int) = 0 by decide)
theorem RG {f : Ao} {c : Command} (hf : f ∈ AN) (h1 : Cf c f = true) (h2 : okC f c) : FH c = (jq (Bp f c), 0) := by
 unfold FH
 rw [WA f hf c h1, Iv hf h2]
 dsimp only
 rw [if_pos h2]
theorem OJ : ∀ {ns : List Int}, (∀ n ∈ ns, inC n) → C6 (ns.map B6) = some ns
 | [], _ => rfl
 | n :: ns, h => by
  rw [List.map_cons, C6, Nb (h n (List.mem_cons_self ..)), OJ fun m hm => h m (List.mem_cons_of_mem _ hm)]
  rfl
theorem Nc : ∀ {ws : List Bs} {ns : List Int}, C6 ws = some ns → ws = ns.map B6 ∧ ∀ n ∈ ns, inC n
 | [], ns, h => by cases h; exact ⟨rfl, fun n hn => nomatch hn⟩
 | w :: l, ns, h => by
  rw [C6] at h
  cases hv : Hv w with
  | none => rw [hv] at h; cases h
  | some n =>
   rw [hv] at h
   cases hl : C6 l with
   | none => rw [hl] at h; cases h
   | some ms =>
    rw [hl] at h
    cases h
    obtain ⟨h1, h2⟩ := Nc hl
    obtain ⟨h3, h4⟩ := T5 hv
    refine ⟨by rw [List.map_cons, h4, ← h1], fun m hm => ?_⟩
    rcases List.mem_cons.1 hm with rfl | hm
    ·exact h3
    ·exact h2 m hm
theorem TD {f : Ao} {c : Command} (h1 : Cf c f = true) (h2 : okC f c) : El f ((Bg f.2.2.2.1 f.2.2.2.2.1).map fun o => CB o c) c.2.2.2.2.2 = c := by
 obtain ⟨wd, kd, dn, b, c', tx⟩ := f
 obtain ⟨k, A, B, C, d, t⟩ := c
 obtain ⟨_, h3, h4, _⟩ := h2
 have h1 : kd = k ∧ dn = d := by simpa [Cf] using h1
 obtain ⟨rfl, rfl⟩ := h1
 dsimp only at h3 h4
 cases b <;> cases c' <;> simp [El, Bg, CB] <;> simp_all
theorem Ym (f : Ao) (c : Command) : ((Bg f.2.2.2.1 f.2.2.2.2.1).map fun o => B6 (CB o c)) = ((Bg f.2.2.2.1 f.2.2.2.2.1).map fun o => CB o c).map B6 := by rw [List.map_map]; rfl
theorem Lc {f : Ao} {c : Command} (h1 : Cf c f = true) (h2 : okC f c) : EW f (Bp f c).tail = (c, true) := by
 have hn : Gj f ((Bg f.2.2.2.1 f.2.2.2.2.1).map fun o => B6 (CB o c)) c.2.2.2.2.2 = (c, true) := by
  unfold Gj
  rw [if_pos (by simp), Ym, OJ (by
   intro n hn
   obtain ⟨o, ho, rfl⟩ := List.mem_map.1 hn
   exact h2.1 o ho)]
  dsimp only
  rw [TD h1 h2]
 unfold EW Bp
 rw [List.tail_cons]
 by_cases ht : f.2.2.2.2.2 = true
 ·rw [if_pos ht, if_pos ht, if_neg (by simp)]
  have e : ((Bg f.2.2.2.1 f.2.2.2.2.1).map (fun o => B6 (CB o c)) ++ [c.2.2.2.2.2]).length - 1 = ((Bg f.2.2.2.1 f.2.2.2.2.1).map fun o => B6 (CB o c)).length := by simp
  rw [e, List.take_left, MO]
  exact hn
 ·rw [if_neg ht, if_neg ht, List.append_nil]
  have := h2.2.2.2 (by simpa using ht)
  rw [← this]
  exact hn
theorem U9 {f : Ao} {ns : List Int} {t : Bs} (hl : ns.length = (Bg f.2.2.2.1 f.2.2.2.2.1).length) (hn : ∀ n ∈ ns, inC n) (ht : f.2.2.2.2.2 = false → t = []) :
  Cf (El f ns t) f = true ∧ okC f (El f ns t) ∧ (Bg f.2.2.2.1 f.2.2.2.2.1).map (fun o => CB o (El f ns t)) = ns := by
 obtain ⟨wd, kd, dn, b, c, tx⟩ := f
 dsimp only at hl ht ⊢
 have hm : (Bg b c).map (fun o => CB o (El (wd, (kd, (dn, (b, (c, tx))))) ns t)) = ns := by
  match ns, hl with
  | [], hl => cases b <;> cases c <;> simp [Bg] at hl
  | [x], hl => cases b <;> cases c <;> simp [Bg] at hl <;> rfl
  | [x, y], hl => cases b <;> cases c <;> simp [Bg] at hl <;> rfl
  | [x, y, z], hl => cases b <;> cases c <;> simp [Bg] at hl <;> rfl
  | _ :: _ :: _ :: _ :: _, hl => cases b <;> cases c <;> simp [Bg] at hl
 refine ⟨by simp [Cf, El], ⟨fun o ho => ?_, fun hb => ?_, fun hc => ?_, ht⟩, hm⟩
 ·have : CB o (El (wd, (kd, (dn, (b, (c, tx))))) ns t) ∈ (Bg b c).map (fun o => CB o (El (wd, (kd, (dn, (b, (c, tx))))) ns t)) := List.mem_map.2 ⟨o, ho, rfl⟩
  rw [hm] at this
  exact hn _ this
 ·dsimp only at hb; subst hb; rfl
 ·dsimp only at hc; subst hc; rfl
theorem Um {f : Ao} {ws : List Bs} {c : Command} (hf : f ∈ AN) (h : EW f ws = (c, true)) : FH c = (jq (f.1 :: ws), 0) := by
 have hN : ∀ ws' t, Gj f ws' t = (c, true) → (f.2.2.2.2.2 = false → t = []) → FH c = (jq (f.1 :: (ws' ++ (if f.2.2.2.2.2 = true then [t] else []))), 0) := by
  intro ws' t hr ht
  unfold Gj at hr
  split at hr
  ·rename_i hlen
   split at hr
   ·rename_i ns hns
    cases hr
    obtain ⟨e1, e2⟩ := Nc hns
    have hl : ns.length = (Bg f.2.2.2.1 f.2.2.2.2.1).length := by rw [Iz hns, hlen]
    obtain ⟨g1, g2, g3⟩ := U9 (f := f) (t := t) hl e2 ht
    rw [RG hf g1 g2]
    unfold Bp
    rw [Ym, g3, ← e1]
    rfl
   ·cases hr
  ·cases hr
 unfold EW at h
 split at h
 ·rename_i ht
  split at h
  ·cases h
  ·rename_i hne
   have := hN _ _ h (fun hf' => by rw [ht] at hf'; cases hf')
   rw [if_pos ht] at this
   rw [this]
   have hl : ws.length - 1 < ws.length := by have := List.length_pos_iff.2 hne; omega
   have e : ws.take (ws.length - 1) ++ [ws.getD (ws.length - 1) []] = ws := by
    rw [getD_eq hl]
    have := List.take_append_getElem hl
    rw [this, List.take_of_length_le (by omega)]
   rw [e]
 ·rename_i ht
  have := hN _ _ h (fun _ => rfl)
  rw [if_neg ht, List.append_nil] at this
  exact this
theorem Wx {c c' : Command} {s : Bs} (h : FH c = (s, 0)) (h' : FH c' = (s, 0)) : c = c' := by
 obtain ⟨f, m1, m2, m3, m4⟩ := GG h
 obtain ⟨g, n1, n2, n3, n4⟩ := GG h'
 have e : Bp f c = Bp g c' := by
  have h1 := DO (Bp f c)
  have h2 := DO (Bp g c')
  rw [← m4] at h1
  rw [← n4] at h2
  rw [h1] at h2
  exact congrArg Prod.fst h2
 have hw : f.1 = g.1 := by
  have := congrArg (fun l => l.headD []) e
  exact this
 have := V8 f m1 g n1 hw
 subst this
 have r1 := Lc m2 m3
 have r2 := Lc n2 n3
 rw [e, r2] at r1
 exact (congrArg Prod.fst r1).symm
def IP (s : Bs) (d : Command × Int) : Prop := (d.2 = 0 ∧ FH d.1 = (s, 0)) ∨ (d = (Dg, 320) ∧ ∀ c, FH c ≠ (s, 0))
theorem IP.eq {s : Bs} {d e : Command × Int} (h : IP s d) (h' : IP s e) : d = e := by
 rcases h with ⟨h1, h2⟩ | ⟨h1, h2⟩
 ·rcases h' with ⟨g1, g2⟩ | ⟨g1, g2⟩
  ·exact Prod.ext (Wx h2 g2) (by rw [h1, g1])
  ·exact absurd h2 (g2 _)
 ·rcases h' with ⟨g1, g2⟩ | ⟨g1, g2⟩
  ·exact absurd g2 (h2 _)
  ·rw [h1, g1]
end Go.VS
