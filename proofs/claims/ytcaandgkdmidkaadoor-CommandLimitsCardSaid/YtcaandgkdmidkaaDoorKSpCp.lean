/- Commands and their lines. -/
import Derived.Test.YtcaandgkdmidkaaDoorKSpCw
set_option linter.unusedVariables false
set_option linter.unusedSimpArgs false
namespace Go.VS
def C9 (f : Al) (c : Command) : List Bs := f.1 :: ((Bc f.2.2.2.1 f.2.2.2.2.1).map (fun o => B5 (Cy o c)) ++ (if f.2.2.2.2.2 = true then [c.2.2.2.2.2] else []))
theorem OL (a : Bs) : ∀ l : List Bs, jq (a :: l) = Ar a ++ l.flatMap fun w => 32 :: Ar w
 | [] => by rw [Q9]; simp
 | b :: l => by
  rw [Ra, OL b l]
  simp
theorem Ru : ∀ f ∈ AL, Ar f.1 = f.1 := by decide
theorem TG {n : Int} (h : inC n) : Ar (B5 n) = B5 n := by
 obtain ⟨h1, _, h3, _⟩ := QY (n.toNat + 1) n.toNat (by omega)
 rw [LC h.1 h.2]
 unfold Ar
 rw [if_pos]
 have he : (Lib.decDigits n.toNat).isEmpty = false := by
  cases hh : Lib.decDigits n.toNat with
  | nil => exact absurd hh h3
  | cons => rfl
 rw [he]
 have hd : ∀ k : Nat, k < 256 → 48 ≤ k → k ≤ 57 → CE (UInt8.ofNat k) = true := by decide +kernel
 refine List.all_eq_true.2 fun b hb => ?_
 have := h1 b hb
 have h4 := hd b.toNat (UInt8.toNat_lt b) this.1 this.2
 rwa [UInt8.ofNat_toNat] at h4
theorem KF {f : Al} {c : Command} (hf : f ∈ AL) (h : okC f c) : jq (C9 f c) = Gu f c := by
 unfold C9
 rw [OL, Ru f hf, List.flatMap_append]
 have h1 : ∀ l : List Nat, (∀ o ∈ l, inC (Cy o c)) → (l.map fun o => B5 (Cy o c)).flatMap (fun w => 32 :: Ar w) = l.flatMap fun o => 32 :: B5 (Cy o c) := by
  intro l
  induction l with
  | nil => intro _; rfl
  | cons o l ih =>
   intro ho
   rw [List.map_cons, List.flatMap_cons, List.flatMap_cons, ih fun q hq => ho q (List.mem_cons_of_mem _ hq), TG (ho o (List.mem_cons_self ..))]
 rw [h1 _ h.1]
 unfold Gu Dk
 rw [List.take_of_length_le (LF _ _), List.append_assoc]
 congr 1
 congr 1
 split <;> simp
theorem V4 : ∀ f ∈ AL, ∀ c : Command, Bo c f = true → AL.find? (Bo c) = some f := by
 intro f hf c h
 have hm : ∀ g ∈ AL, Bo c g = true → g = f := by
  have hu : ∀ f ∈ AL, ∀ g ∈ AL, f.2.1 = g.2.1 → f.2.2.1 = g.2.2.1 → g = f := by decide
  intro g hg hgf
  unfold Bo at h hgf
  simp only [Bool.and_eq_true, beq_iff_eq] at h hgf
  exact hu f hf g hg (by rw [h.1, hgf.1]) (by rw [h.2, hgf.2])
 cases hr : AL.find? (Bo c) with
 | none => exact absurd h (by simpa using List.find?_eq_none.1 hr f hf)
 | some g => rw [hm g (List.mem_of_find?_eq_some hr) (List.find?_some hr)]
theorem VF : ∀ f ∈ AL, ∀ g ∈ AL, f.1 = g.1 → f = g := by decide
theorem Hn {c : Command} {s : Bs} (h : DN c = (s, 0)) : ∃ f, f ∈ AL ∧ Bo c f = true ∧ okC f c ∧ s = jq (C9 f c) := by
 unfold DN at h
 split at h
 ·rename_i f hf
  split at h
  ·rename_i hok
   have hm := List.mem_of_find?_eq_some hf
   refine ⟨f, hm, List.find?_some hf, hok, ?_⟩
   rw [KF hm hok]
   exact (congrArg Prod.fst h).symm
  ·exact absurd (congrArg Prod.snd h) (show ¬ (2 : Int) = 0 by decide)
 ·exact absurd (congrArg Prod.snd h) (show ¬ (2 : Int) = 0 by decide)
theorem UE {f : Al} {c : Command} (hf : f ∈ AL) (h1 : Bo c f = true) (h2 : okC f c) : DN c = (jq (C9 f c), 0) := by
 unfold DN
 rw [V4 f hf c h1, KF hf h2]
 dsimp only
 rw [if_pos h2]
theorem NZ : ∀ {ns : List Int}, (∀ n ∈ ns, inC n) → CV (ns.map B5) = some ns
 | [], _ => rfl
 | n :: ns, h => by
  rw [List.map_cons, CV, P6 (h n (List.mem_cons_self ..)), NZ fun m hm => h m (List.mem_cons_of_mem _ hm)]
  rfl
theorem MF : ∀ {ws : List Bs} {ns : List Int}, CV ws = some ns → ws = ns.map B5 ∧ ∀ n ∈ ns, inC n
 | [], ns, h => by cases h; exact ⟨rfl, fun n hn => nomatch hn⟩
 | w :: l, ns, h => by
  rw [CV] at h
  cases hv : HD w with
  | none => rw [hv] at h; cases h
  | some n =>
   rw [hv] at h
   cases hl : CV l with
   | none => rw [hl] at h; cases h
   | some ms =>
    rw [hl] at h
    cases h
    obtain ⟨h1, h2⟩ := MF hl
    obtain ⟨h3, h4⟩ := Tn hv
    refine ⟨by rw [List.map_cons, h4, ← h1], fun m hm => ?_⟩
    rcases List.mem_cons.1 hm with rfl | hm
    ·exact h3
    ·exact h2 m hm
theorem SU {f : Al} {c : Command} (h1 : Bo c f = true) (h2 : okC f c) : D5 f ((Bc f.2.2.2.1 f.2.2.2.2.1).map fun o => Cy o c) c.2.2.2.2.2 = c := by
 obtain ⟨wd, kd, dn, b, c', tx⟩ := f
 obtain ⟨k, A, B, C, d, t⟩ := c
 obtain ⟨_, h3, h4, _⟩ := h2
 have h1 : kd = k ∧ dn = d := by simpa [Bo] using h1
 obtain ⟨rfl, rfl⟩ := h1
 dsimp only at h3 h4
 cases b <;> cases c' <;> simp [D5, Bc, Cy] <;> simp_all
theorem XM (f : Al) (c : Command) : ((Bc f.2.2.2.1 f.2.2.2.2.1).map fun o => B5 (Cy o c)) = ((Bc f.2.2.2.1 f.2.2.2.2.1).map fun o => Cy o c).map B5 := by rw [List.map_map]; rfl
theorem KK {f : Al} {c : Command} (h1 : Bo c f = true) (h2 : okC f c) : EG f (C9 f c).tail = (c, true) := by
 have hn : F0 f ((Bc f.2.2.2.1 f.2.2.2.2.1).map fun o => B5 (Cy o c)) c.2.2.2.2.2 = (c, true) := by
  unfold F0
  rw [if_pos (by simp), XM, NZ (by
   intro n hn
   obtain ⟨o, ho, rfl⟩ := List.mem_map.1 hn
   exact h2.1 o ho)]
  dsimp only
  rw [SU h1 h2]
 unfold EG C9
 rw [List.tail_cons]
 by_cases ht : f.2.2.2.2.2 = true
 ·rw [if_pos ht, if_pos ht, if_neg (by simp)]
  have e : ((Bc f.2.2.2.1 f.2.2.2.2.1).map (fun o => B5 (Cy o c)) ++ [c.2.2.2.2.2]).length - 1 = ((Bc f.2.2.2.1 f.2.2.2.2.1).map fun o => B5 (Cy o c)).length := by simp
  rw [e, List.take_left, Ml]
  exact hn
 ·rw [if_neg ht, if_neg ht, List.append_nil]
  have := h2.2.2.2 (by simpa using ht)
  rw [← this]
  exact hn
theorem UD {f : Al} {ns : List Int} {t : Bs} (hl : ns.length = (Bc f.2.2.2.1 f.2.2.2.2.1).length) (hn : ∀ n ∈ ns, inC n) (ht : f.2.2.2.2.2 = false → t = []) :
  Bo (D5 f ns t) f = true ∧ okC f (D5 f ns t) ∧ (Bc f.2.2.2.1 f.2.2.2.2.1).map (fun o => Cy o (D5 f ns t)) = ns := by
 obtain ⟨wd, kd, dn, b, c, tx⟩ := f
 dsimp only at hl ht ⊢
 have hm : (Bc b c).map (fun o => Cy o (D5 (wd, (kd, (dn, (b, (c, tx))))) ns t)) = ns := by
  match ns, hl with
  | [], hl => cases b <;> cases c <;> simp [Bc] at hl
  | [x], hl => cases b <;> cases c <;> simp [Bc] at hl <;> rfl
  | [x, y], hl => cases b <;> cases c <;> simp [Bc] at hl <;> rfl
  | [x, y, z], hl => cases b <;> cases c <;> simp [Bc] at hl <;> rfl
  | _ :: _ :: _ :: _ :: _, hl => cases b <;> cases c <;> simp [Bc] at hl
 refine ⟨by simp [Bo, D5], ⟨fun o ho => ?_, fun hb => ?_, fun hc => ?_, ht⟩, hm⟩
 ·have : Cy o (D5 (wd, (kd, (dn, (b, (c, tx))))) ns t) ∈ (Bc b c).map (fun o => Cy o (D5 (wd, (kd, (dn, (b, (c, tx))))) ns t)) := List.mem_map.2 ⟨o, ho, rfl⟩
  rw [hm] at this
  exact hn _ this
 ·dsimp only at hb; subst hb; rfl
 ·dsimp only at hc; subst hc; rfl
theorem TJ {f : Al} {ws : List Bs} {c : Command} (hf : f ∈ AL) (h : EG f ws = (c, true)) : DN c = (jq (f.1 :: ws), 0) := by
 have hN : ∀ ws' t, F0 f ws' t = (c, true) → (f.2.2.2.2.2 = false → t = []) → DN c = (jq (f.1 :: (ws' ++ (if f.2.2.2.2.2 = true then [t] else []))), 0) := by
  intro ws' t hr ht
  unfold F0 at hr
  split at hr
  ·rename_i hlen
   split at hr
   ·rename_i ns hns
    cases hr
    obtain ⟨e1, e2⟩ := MF hns
    have hl : ns.length = (Bc f.2.2.2.1 f.2.2.2.2.1).length := by rw [H9 hns, hlen]
    obtain ⟨g1, g2, g3⟩ := UD (f := f) (t := t) hl e2 ht
    rw [UE hf g1 g2]
    unfold C9
    rw [XM, g3, ← e1]
    rfl
   ·cases hr
  ·cases hr
 unfold EG at h
 split at h
 ·rename_i ht
  split at h
  ·cases h
  ·rename_i hne
   have := hN _ _ h (fun hf' => by rw [ht] at hf'; cases hf')
   rw [if_pos ht] at this
   rw [this]
   have hl : ws.length - 1 < ws.length := by have := List.length_pos_iff.2 hne; omega
   have e : ws.take (ws.length - 1) ++ [ws.getD (ws.length - 1) []] = ws := by
    rw [getD_eq hl]
    have := List.take_append_getElem hl
    rw [this, List.take_of_length_le (by omega)]
   rw [e]
 ·rename_i ht
  have := hN _ _ h (fun _ => rfl)
  rw [if_neg ht, List.append_nil] at this
  exact this
theorem V1 {c c' : Command} {s : Bs} (h : DN c = (s, 0)) (h' : DN c' = (s, 0)) : c = c' := by
 obtain ⟨f, m1, m2, m3, m4⟩ := Hn h
 obtain ⟨g, n1, n2, n3, n4⟩ := Hn h'
 have e : C9 f c = C9 g c' := by
  have h1 := Ej (C9 f c)
  have h2 := Ej (C9 g c')
  rw [← m4] at h1
  rw [← n4] at h2
  rw [h1] at h2
  exact congrArg Prod.fst h2
 have hw : f.1 = g.1 := by
  have := congrArg (fun l => l.headD []) e
  exact this
 have := VF f m1 g n1 hw
 subst this
 have r1 := KK m2 m3
 have r2 := KK n2 n3
 rw [e, r2] at r1
 exact (congrArg Prod.fst r1).symm
def KW (s : Bs) (d : Command × Int) : Prop := (d.2 = 0 ∧ DN d.1 = (s, 0)) ∨ (d = (Da, 320) ∧ ∀ c, DN c ≠ (s, 0))
theorem KW.eq {s : Bs} {d e : Command × Int} (h : KW s d) (h' : KW s e) : d = e := by
 rcases h with ⟨h1, h2⟩ | ⟨h1, h2⟩
 ·rcases h' with ⟨g1, g2⟩ | ⟨g1, g2⟩
  ·exact Prod.ext (V1 h2 g2) (by rw [h1, g1])
  ·exact absurd h2 (g2 _)
 ·rcases h' with ⟨g1, g2⟩ | ⟨g1, g2⟩
  ·exact absurd g2 (h2 _)
  ·rw [h1, g1]
end Go.VS
