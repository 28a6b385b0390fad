/- Commands: the program's reader. -/
import Derived.Test.YtcaandgkdmidkaaDoorKSpCp
set_option linter.unusedVariables false
set_option linter.unusedSimpArgs false
namespace Go.VS
variable {P : Pg}
def LN (P : Pg) : Prop := Fn P zS7 Bx () fun (d : List Al) _ => d = AL
theorem Vu (h : Has P Dv) : LN P := by
 refine Kv h ?_
 unfold G5
 rfl
theorem Qs (s : Bs) : s.length ≤ (Ar s).length := by
 unfold Ar
 split
 ·exact Nat.le_refl _
 ·have := Q0 s
  simp only [List.length_cons, List.length_append, List.length_nil]
  omega
theorem Q8 : ∀ (l : List Bs) (w : Bs), w ∈ l → w.length ≤ (jq l).length
 | a :: l, w, h => by
  rw [OL, List.length_append]
  have hf : ∀ l : List Bs, w ∈ l → w.length ≤ (l.flatMap fun w => 32 :: Ar w).length := by
   intro l
   induction l with
   | nil => intro h; cases h
   | cons b l ih =>
    intro h
    rw [List.flatMap_cons, List.length_append]
    rcases List.mem_cons.1 h with rfl | h
    ·have := Qs w
     rw [List.length_cons]
     omega
    ·have := ih h
     omega
  rcases List.mem_cons.1 h with rfl | h
  ·have := Qs w
   omega
  ·have := hf l h
   omega
 | [], w, h => nomatch h
def Gj (P : Pg) : Prop := ∀ s : Bs, s.length ≤ 100000 → Fn P zS1 AZ s fun (d : Command × Int) _ => KW s d
theorem Ts {s : Bs} (h : ∀ l, Ei s = (l, true) → l = []) : KW s (Da, 320) := by
 refine .inr ⟨rfl, fun c hc => ?_⟩
 obtain ⟨f, m1, m2, m3, m4⟩ := Hn hc
 have h1 := Ej (C9 f c)
 rw [← m4] at h1
 exact absurd (h _ h1) (by simp [C9])
theorem TO (h : Has P Du) (hW : LL P) (hF : LN P) (hR : LO P) : Gj P := by
 intro s hs
 refine Ku h ?_
 unfold G4
 refine (hW s (by omega)).to ?_
 rintro (d : List Bs × Bool) _ hd
 have hd : d = Ei s := hd
 subst hd
 have hwl := Ub s
 rcases hw : Ei s with ⟨l, ok⟩
 rw [hw] at hwl
 dsimp only at hwl ⊢
 refine ⟨fun hc => ?_, fun hc => ?_⟩
 ·refine Ts fun l' hl' => ?_
  rw [hw] at hl'
  cases hl'
  have : (l.length : Int) = 0 := by simpa using hc
  exact List.eq_nil_of_length_eq_zero (by omega)
 simp at hc
 obtain ⟨hok, hne⟩ := hc
 subst hok
 obtain ⟨w0, ws, rfl⟩ : ∃ w0 ws, l = w0 :: ws := by
  cases l with
  | nil => simp at hne
  | cons a b => exact ⟨a, b, rfl⟩
 have hsq := RM hw
 refine Fn.to hF ?_
 rintro (d : List Al) _ hd
 have hd : d = AL := hd
 subst hd
 have hlen : (AL.length : Int) = 10 := rfl
 have hbad : (∀ f ∈ AL, f.1 = w0 → ∀ c, EG f ws ≠ (c, true)) → KW s (Da, 320) := by
  intro hno
  refine .inr ⟨rfl, fun c hc => ?_⟩
  obtain ⟨f, m1, m2, m3, m4⟩ := Hn hc
  have h1 := Ej (C9 f c)
  rw [← m4, hw] at h1
  have e : w0 :: ws = C9 f c := congrArg Prod.fst h1
  have e1 : w0 = f.1 := congrArg (fun l => l.headD []) e
  have e2 : ws = (C9 f c).tail := congrArg List.tail e
  exact hno f m1 e1.symm c (by rw [e2]; exact KK m2 m3)
 refine Ao.mid (fun _ => ∀ f ∈ AL, f.1 = w0 → ∀ c, EG f ws ≠ (c, true)) ?_ fun _ h => hbad h
 refine Dm.of (fun q => 0 ≤ q.2.1 ∧ q.2.1 ≤ 10 ∧ ∀ j f, j < q.2.1.toNat → AL[j]? = some f → f.1 = w0 → ∀ c, EG f ws ≠ (c, true)) (fun q => (10 - q.2.1).toNat) ⟨by decide, by decide, fun j f hj => absurd hj (Nat.not_lt_zero _)⟩ ?_
 rintro ⟨u, i, cc⟩ ⟨i0, i1, hno⟩
 dsimp only at i0 i1 hno ⊢
 rw [hlen]
 refine ⟨fun hc => ?_, fun hc => ?_⟩
 ·have hc := of_decide_eq_true hc
  have hi : i.toNat < AL.length := by show i.toNat < 10; omega
  have hmem := PM (d := A1) hi
  have hat : AL[i.toNat]? = some (AL.getD i.toNat A1) := by rw [getD_eq hi]; exact List.getElem?_eq_getElem hi
  have hcall : (∀ K : Command × Bool → Unit → Prop, K (EG (AL.getD i.toNat A1) ws) () → Fn P zS2 AO (AL.getD i.toNat A1, ws) K) := fun K hk =>
   (hR (AL.getD i.toNat A1, ws) (by dsimp only; rw [List.length_cons] at hwl; omega) (fun w hw' => by
    have := Q8 (w0 :: ws) w (List.mem_cons_of_mem _ hw')
    rw [← hsq] at this
    omega)).to fun (d : Command × Bool) _ hd => by
     have hd : d = EG (AL.getD i.toNat A1) ws := hd
     subst hd
     exact hk
  obtain ⟨f, hfe⟩ : ∃ f, AL.getD i.toNat A1 = f := ⟨_, rfl⟩
  rw [hfe] at hmem hat
  have e0 : (w0 :: ws).getD (Int.toNat 0) [] = w0 := rfl
  rw [e0]
  refine Ao.mid (fun _ => f.1 = w0 → ∀ c, EG f ws ≠ (c, true)) ⟨⟨i0, hc⟩, hi, ⟨by decide, by simp⟩, by simp, fun hb => ?_, fun hb => ?_⟩ ?_
  ·intro he
   rw [hfe, he] at hb
   simp at hb
  ·rw [hfe] at hb
   have hb : f.1 = w0 := by simpa using hb
   have et : List.take ((w0 :: ws).length - Int.toNat 1) (List.drop (Int.toNat 1) (w0 :: ws)) = ws := by
    show List.take (ws.length + 1 - 1) ws = ws
    rw [List.take_of_length_le (by omega)]
   rw [et]
   refine Ao.mid (fun q => (q.2, q.1) = EG (AL.getD i.toNat A1) ws) ?_ ?_
   ·refine ⟨⟨by decide, by rw [List.length_cons]; omega⟩, ?_⟩
    have hle : Int.toNat 1 + ((w0 :: ws).length - Int.toNat 1) ≤ (w0 :: ws).length := by
     show 1 + (ws.length + 1 - 1) ≤ ws.length + 1
     omega
    repeat' first | exact trivial | exact hle | exact rfl | apply And.intro | refine hcall _ ?_
   ·rw [hfe]
    rintro ⟨ok, c⟩ hq
    dsimp only at hq ⊢
    refine ⟨fun hk => ?_, fun hk => ?_⟩
    ·subst hk
     have := TJ hmem hq.symm
     rw [hb, ← hsq] at this
     exact .inl ⟨rfl, this⟩
    ·subst hk
     intro _ c' hc'
     rw [hc'] at hq
     cases hq
  ·intro q hq
   rw [w64 (by omega) (by omega)]
   refine ⟨⟨by omega, by omega, fun j g hj hg => ?_⟩, by omega⟩
   by_cases hji : j < i.toNat
   ·exact hno j g hji hg
   ·obtain rfl : j = i.toNat := by omega
    rw [hat] at hg
    cases hg
    exact hq
 ·have hc := of_decide_eq_false hc
  intro f hf
  obtain ⟨j, hj⟩ := List.getElem?_of_mem hf
  have hj10 : j < 10 := by
   rcases Nat.lt_or_ge j 10 with h' | h'
   ·exact h'
   ·rw [List.getElem?_eq_none (by exact h')] at hj; cases hj
  exact hno j f (by omega) hj
end Go.VS
