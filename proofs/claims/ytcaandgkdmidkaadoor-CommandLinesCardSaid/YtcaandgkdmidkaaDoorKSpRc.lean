/- Commands in the document. -/
import Derived.Test.YtcaandgkdmidkaaDoorKSpCq
import Derived.Test.YtcaandgkdmidkaaDoorKSpWrd
set_option linter.unusedVariables false
set_option linter.unusedSimpArgs false
namespace Go.VS
variable {P : Pg}
def KI (f : Al) : Bs := 97 :: ((if f.2.2.2.1 = true then [98] else []) ++ ((if f.2.2.2.2.1 = true then [99] else []) ++ (if f.2.2.2.2.2 = true then [116] else [])))
def G7 (x : Int × Bool) : Bs × Bs := match AL.find? (fun f => f.2.1 == x.1 && f.2.2.1 == (x.2 && x.1 == 4)) with
 | some f => (f.1, KI f)
 | none => ([], [])
def Gm (P : Pg) : Prop := ∀ x : Int × Bool, Fn P zS8 Bp x fun (d : Bs × Bs) _ => d = G7 x
theorem Vq (h : Has P ES) : Gm P := by
 rintro ⟨k, d⟩
 refine Nb h ?_
 unfold Jd
 refine Ao.of ?_
 dsimp only
 by_cases h1 : k = 1
 ·subst h1; simp; cases d <;> rfl
 by_cases h2 : k = 2
 ·subst h2; simp; cases d <;> rfl
 by_cases h3 : k = 3
 ·subst h3; simp; cases d <;> rfl
 by_cases h4 : k = 4
 ·subst h4; simp; cases d <;> simp <;> rfl
 by_cases h5 : k = 5
 ·subst h5; simp; cases d <;> rfl
 by_cases h6 : k = 6
 ·subst h6; simp; cases d <;> rfl
 by_cases h7 : k = 7
 ·subst h7; simp; cases d <;> rfl
 by_cases h8 : k = 8
 ·subst h8; simp; cases d <;> rfl
 by_cases h9 : k = 9
 ·subst h9; simp; cases d <;> rfl
 simp only [beq_iff_eq, h1, h2, h3, h4, h5, h6, h7, h8, h9, false_implies, true_and, and_true, beq_eq_false_iff_ne, ne_eq, not_false_eq_true, true_implies]
 unfold G7
 rw [List.find?_eq_none.2]
 intro f hf
 have hk : ∀ f ∈ AL, 1 ≤ f.2.1 ∧ f.2.1 ≤ 9 := by decide
 have := hk f hf
 simp only [Bool.and_eq_true, beq_iff_eq, not_and]
 intro he
 omega
theorem Gm.at (h : Gm P) {x : Int × Bool} {K : Bs × Bs → Unit → Prop} (hk : K (G7 x) ()) : Fn P zS8 Bp x K :=
 (h x).to fun (d : Bs × Bs) _ hd => by
  have hd : d = G7 x := hd
  subst hd
  exact hk
def Hg (P : Pg) : Prop := ∀ x : Int, Fn P zS5 Be x fun (d : Bool) _ => d = decide (inC x)
theorem Vr (h : Has P ET) : Hg P := by
 intro x
 refine Nc h ?_
 unfold Je
 by_cases h1 : x ≥ 0 <;> by_cases h2 : x ≤ 2147483647 <;> simp [inC, h1, h2] <;> omega
theorem Hg.at (h : Hg P) {x : Int} {K : Bool → Unit → Prop} (hk : K (decide (inC x)) ()) : Fn P zS5 Be x K :=
 (h x).to fun (d : Bool) _ hd => by
  have hd : d = decide (inC x) := hd
  subst hd
  exact hk
def Hb (c : Command) (q : Bs × (Bool × Command)) (p : UInt8) : Bs × (Bool × Command) :=
 if p = 97 then ((q.1 ++ [32]) ++ B5 c.2.1, (q.2.1 && decide (inC c.2.1), (q.2.2.1, (0, q.2.2.2.2))))
 else if p = 98 then ((q.1 ++ [32]) ++ B5 c.2.2.1, (q.2.1 && decide (inC c.2.2.1), (q.2.2.1, (q.2.2.2.1, (0, q.2.2.2.2.2)))))
 else if p = 99 then ((q.1 ++ [32]) ++ B5 c.2.2.2.1, (q.2.1 && decide (inC c.2.2.2.1), (q.2.2.1, (q.2.2.2.1, (q.2.2.2.2.1, (0, q.2.2.2.2.2.2))))))
 else ((q.1 ++ [32]) ++ Ar c.2.2.2.2.2, (q.2.1, (q.2.2.1, (q.2.2.2.1, (q.2.2.2.2.1, (q.2.2.2.2.2.1, (q.2.2.2.2.2.2.1, [])))))))
theorem T3 {c : Command} (hc : c.2.2.2.2.2.length ≤ 100000) (q : Bs × (Bool × Command)) (p : UInt8) : (Hb c q p).1.length ≤ q.1.length + 400003 := by
 have h1 := EZ c.2.1
 have h2 := EZ c.2.2.1
 have h3 := EZ c.2.2.2.1
 have h4 := FA c.2.2.2.2.2
 unfold Hb
 repeat' split
 all_goals (simp only [List.length_append, List.length_cons, List.length_nil]; omega)
theorem Lh (c : Command) : ∀ (l : Bs) (q : Bs × (Bool × Command)), (l.foldl (Hb c) q).2.2.2.2.2.2.1 = q.2.2.2.2.2.2.1
 | [], _ => rfl
 | p :: l, q => by
  rw [List.foldl_cons, Lh c l]
  unfold Hb
  repeat' split
  all_goals rfl
theorem XI (wd : Bs) (kd A Bv Cv : Int) (dn b c tx dd : Bool) (t : Bs) (c0 : Command) (hc0 : c0 = (kd, (A, (Bv, (Cv, (dd, t)))))) :
  (KI (wd, (kd, (dn, (b, (c, tx)))))).foldl (Hb c0) (wd, (true, (0, (A, (Bv, (Cv, (false, t))))))) =
   (Gu (wd, (kd, (dn, (b, (c, tx))))) c0, (decide (∀ o ∈ Bc b c, inC (Cy o c0)), (0, (0, ((if b then 0 else Bv), ((if c then 0 else Cv), (false, (if tx then [] else t)))))))) := by
 subst hc0
 have ht : decide (∀ o ∈ Bc b c, inC (Cy o (kd, (A, (Bv, (Cv, (dd, t))))))) = (decide (inC A) && ((!b || decide (inC Bv)) && (!c || decide (inC Cv)))) := by
  cases b <;> cases c <;> simp [Bc, Cy]
 rw [ht]
 cases b <;> cases c <;> cases tx <;> simp [KI, Hb, Gu, Dk, Bc, Cy, Bool.and_assoc]
theorem Pw (b c tx : Bool) (Bv Cv : Int) (t : Bs) : (cond (cond (cond (cond (cond (!true) true ((0 : Int) != (0 : Int))) true ((if b = true then 0 else Bv) != (0 : Int))) true ((if c = true then 0 else Cv) != (0 : Int))) true false) true (!((if tx = true then [] else t) == ([] : Bs)))) = false ↔ ((b = false → Bv = 0) ∧ (c = false → Cv = 0) ∧ (tx = false → t = [])) := by
 cases b <;> cases c <;> cases tx <;> simp [and_assoc]
def Ey (P : Pg) : Prop := ∀ c : Command, c.2.2.2.2.2.length ≤ 100000 → Fn P Ud A5 c fun (d : Bs × Int) _ => d = DN c
theorem Sn (f : Al) : (KI f).length ≤ 4 := by
 unfold KI
 cases f.2.2.2.1 <;> cases f.2.2.2.2.1 <;> cases f.2.2.2.2.2 <;> decide
theorem S8 (x : Int × Bool) : (G7 x).2.length ≤ 4 ∧ (G7 x).1.length ≤ 8 := by
 unfold G7
 split
 ·rename_i f hf
  refine ⟨Sn f, ?_⟩
  have h1 : ∀ f ∈ AL, f.1.length ≤ 8 := by decide
  exact h1 f (List.mem_of_find?_eq_some hf)
 ·exact ⟨by decide, by decide⟩
theorem QB (h : Has P DI) (hF : Gm P) (hG : Hg P) (hN : IA P) (hQ : Kh P) : Ey P := by
 intro c hc
 have hN' : ∀ {n : Int} {K : Bs → Unit → Prop}, K (B5 n) () → Fn P zS1 AK n K := fun {n} {K} hk =>
  (hN n).to fun (d : Bs) _ hd => by
   have hd : d = B5 n := hd
   subst hd
   exact hk
 have hQ' : ∀ {K : Bs → Unit → Prop}, K (Ar c.2.2.2.2.2) () → Fn P Uc BK c.2.2.2.2.2 K := fun {K} hk =>
  (hQ _ (by omega)).to fun (d : Bs) _ hd => by
   have hd : d = Ar c.2.2.2.2.2 := hd
   subst hd
   exact hk
 refine Ln h ?_
 unfold Hi
 refine (hF (c.1, c.2.2.2.2.1)).to ?_
 rintro (fr : Bs × Bs) _ hfr
 have hfr : fr = G7 (c.1, c.2.2.2.2.1) := hfr
 obtain ⟨pl, wl⟩ := S8 (c.1, c.2.2.2.2.1)
 rw [← hfr] at pl wl
 obtain ⟨wd, parts⟩ := fr
 dsimp only at pl wl ⊢
 refine Ao.mid (fun q => q = (0, (c.2.1, (c.2.2.1, (c.2.2.2.1, ((if c.1 = 4 then false else c.2.2.2.2.1), c.2.2.2.2.2)))))) ⟨fun hb => ?_, fun hb => ?_⟩ ?_
 ·rw [if_pos (by simpa using hb)]
 ·rw [if_neg (by simpa using hb)]
 rintro rest0 hr0
 refine Ao.mid (fun q => q = parts.foldl (Hb c) (wd, (!(wd == ([] : Bs)), rest0))) ?_ ?_
 ·refine Dm.of (fun q => 0 ≤ q.2.2.1 ∧ q.2.2.1 ≤ parts.length ∧ (q.1, (q.2.1, q.2.2.2)) = (parts.take q.2.2.1.toNat).foldl (Hb c) (wd, (!(wd == ([] : Bs)), rest0)) ∧ (q.1.length : Int) ≤ 8 + 400003 * q.2.2.1) (fun q => (parts.length - q.2.2.1).toNat) ⟨Int.le_refl _, by dsimp only; omega, rfl, by dsimp only; omega⟩ ?_
  rintro ⟨s, ok, i, rest⟩ ⟨i0, i1, e, hs⟩
  dsimp only at i0 i1 e hs ⊢
  refine ⟨fun hcc => ?_, fun hcc => ?_⟩
  ·have hcc := of_decide_eq_true hcc
   have hi : i.toNat < parts.length := by omega
   have hnx : (parts.take (i.toNat + 1)).foldl (Hb c) (wd, (!(wd == ([] : Bs)), rest0)) = Hb c (s, (ok, rest)) (parts.getD i.toNat 0) := by
    rw [List.take_add_one, List.getElem?_eq_getElem hi, List.foldl_append, ← e, getD_eq hi]
    rfl
   have hln := T3 hc (s, (ok, rest)) (parts.getD i.toNat 0)
   generalize parts.getD i.toNat 0 = p at hnx hln ⊢
   have hf1 := EZ c.2.1
   have hf2 := EZ c.2.2.1
   have hf3 := EZ c.2.2.2.1
   have hq4 := FA c.2.2.2.2.2
   refine Ao.mid (fun q => q = Hb c (s, (ok, rest)) p) ⟨⟨i0, hcc⟩, Ao.of (Ao.of ⟨fun hp => ?_, fun hp => Ao.of ⟨fun hp2 => ?_, fun hp2 => Ao.of ⟨fun hp3 => ?_, fun hp3 => ?_⟩⟩⟩)⟩ ?_
   ·have hp : p = 97 := UInt8.toNat_inj.1 (by rw [show (97 : UInt8).toNat = 97 from rfl]; simp at hp; omega)
    subst hp
    refine ⟨by simp only [List.length_cons, List.length_nil]; omega, hN' ⟨by simp only [List.length_append, List.length_cons, List.length_nil]; omega, Ao.mid (fun q => cond ok q false = (ok && decide (inC c.2.1))) ⟨fun ho => hG.at (by rw [ho]; rfl), fun ho => by rw [ho]; rfl, trivial⟩ ?_⟩⟩
    intro q hq
    rw [hq]
    rfl
   ·have hp2 : p = 98 := UInt8.toNat_inj.1 (by rw [show (98 : UInt8).toNat = 98 from rfl]; simp at hp2; omega)
    subst hp2
    refine ⟨by simp only [List.length_cons, List.length_nil]; omega, hN' ⟨by simp only [List.length_append, List.length_cons, List.length_nil]; omega, Ao.mid (fun q => cond ok q false = (ok && decide (inC c.2.2.1))) ⟨fun ho => hG.at (by rw [ho]; rfl), fun ho => by rw [ho]; rfl, trivial⟩ ?_⟩⟩
    intro q hq
    rw [hq]
    rfl
   ·have hp3 : p = 99 := UInt8.toNat_inj.1 (by rw [show (99 : UInt8).toNat = 99 from rfl]; simp at hp3; omega)
    subst hp3
    refine ⟨by simp only [List.length_cons, List.length_nil]; omega, hN' ⟨by simp only [List.length_append, List.length_cons, List.length_nil]; omega, Ao.mid (fun q => cond ok q false = (ok && decide (inC c.2.2.2.1))) ⟨fun ho => hG.at (by rw [ho]; rfl), fun ho => by rw [ho]; rfl, trivial⟩ ?_⟩⟩
    intro q hq
    rw [hq]
    rfl
   ·have e1 : p ≠ 97 := fun h => by subst h; simp at hp
    have e2 : p ≠ 98 := fun h => by subst h; simp at hp2
    have e3 : p ≠ 99 := fun h => by subst h; simp at hp3
    refine ⟨by simp only [List.length_cons, List.length_nil]; omega, hQ' ⟨by simp only [List.length_append, List.length_cons, List.length_nil]; omega, ?_⟩⟩
    unfold Hb
    rw [if_neg e1, if_neg e2, if_neg e3]
   ·intro q hq
    rw [w64 (by omega) (by omega)]
    subst hq
    dsimp only at hln
    refine ⟨⟨by omega, by omega, ?_, by omega⟩, by omega⟩
    rw [show (i + 1).toNat = i.toNat + 1 by omega, hnx]
  ·have hcc := of_decide_eq_false hcc
   rw [show i.toNat = parts.length by omega, List.take_length] at e
   exact e
 intro q hq
 have hkey : ((cond (cond (cond (cond (cond (!q.2.1) true (q.2.2.2.1 != (0 : Int))) true (q.2.2.2.2.1 != (0 : Int))) true (q.2.2.2.2.2.1 != (0 : Int))) true q.2.2.2.2.2.2.1) true (!(q.2.2.2.2.2.2.2 == ([] : Bs)))) = true → DN c = ([], 2)) ∧
   ((cond (cond (cond (cond (cond (!q.2.1) true (q.2.2.2.1 != (0 : Int))) true (q.2.2.2.2.1 != (0 : Int))) true (q.2.2.2.2.2.1 != (0 : Int))) true q.2.2.2.2.2.2.1) true (!(q.2.2.2.2.2.2.2 == ([] : Bs)))) = false → DN c = (q.1, 0)) := by
  by_cases hd : c.1 ≠ 4 ∧ c.2.2.2.2.1 = true
  ·have hcm : DN c = ([], 2) := by
    unfold DN
    rw [List.find?_eq_none.2]
    intro f hf hif
    have h4 : ∀ f ∈ AL, f.2.2.1 = true → f.2.1 = 4 := by decide
    unfold Bo at hif
    simp only [Bool.and_eq_true, beq_iff_eq] at hif
    exact hd.1 (by rw [← hif.1]; exact h4 f hf (by rw [hif.2, hd.2]))
   have hdn : q.2.2.2.2.2.2.1 = true := by
    rw [hq, Lh, hr0]
    dsimp only
    rw [if_neg hd.1, hd.2]
   rw [hdn]
   refine ⟨fun _ => hcm, fun hb => ?_⟩
   exfalso
   revert hb
   cases (cond (cond (cond (!q.2.1) true (q.2.2.2.1 != (0 : Int))) true (q.2.2.2.2.1 != (0 : Int))) true (q.2.2.2.2.2.1 != (0 : Int))) <;> simp
  ·have hdd : (c.2.2.2.2.1 && c.1 == 4) = c.2.2.2.2.1 := by
    by_cases h4 : c.1 = 4
    ·simp [h4]
    ·have : c.2.2.2.2.1 = false := by
      cases h : c.2.2.2.2.1 with
      | true => exact absurd ⟨h4, h⟩ hd
      | false => rfl
     simp [this]
   have hr1 : rest0 = (0, (c.2.1, (c.2.2.1, (c.2.2.2.1, (false, c.2.2.2.2.2))))) := by
    rw [hr0]
    by_cases h4 : c.1 = 4
    ·rw [if_pos h4]
    ·rw [if_neg h4]
     have : c.2.2.2.2.1 = false := by
      cases h : c.2.2.2.2.1 with
      | true => exact absurd ⟨h4, h⟩ hd
      | false => rfl
     rw [this]
   unfold G7 at hfr
   dsimp only at hfr
   rw [hdd] at hfr
   have hcm : DN c = match AL.find? (Bo c) with
    | some f => if okC f c then (Gu f c, 0) else ([], 2)
    | none => ([], 2) := rfl
   rw [show (fun f : Al => f.2.1 == c.1 && f.2.2.1 == c.2.2.2.2.1) = Bo c from rfl] at hfr
   cases hfind : AL.find? (Bo c) with
   | none =>
    rw [hfind] at hfr hcm
    cases hfr
    dsimp only at hcm
    rw [hq]
    refine ⟨fun _ => hcm, fun hb => ?_⟩
    exfalso
    simp at hb
   | some f =>
    rw [hfind] at hfr hcm
    cases hfr
    dsimp only at hcm
    have hw : ∀ f ∈ AL, (!(f.1 == ([] : Bs))) = true := by decide
    rw [hw f (List.mem_of_find?_eq_some hfind), hr1] at hq
    obtain ⟨wd, kd, dn, b, c', tx⟩ := f
    obtain ⟨k0, A, Bv, Cv, dd, t⟩ := c
    have hq2 : q = (Gu (wd, (kd, (dn, (b, (c', tx))))) (k0, (A, (Bv, (Cv, (dd, t))))), (decide (∀ o ∈ Bc b c', inC (Cy o (k0, (A, (Bv, (Cv, (dd, t))))))), (0, (0, ((if b then 0 else Bv), ((if c' then 0 else Cv), (false, (if tx then [] else t)))))))) := by
     rw [hq]
     exact XI wd k0 A Bv Cv dn b c' tx dd t _ rfl
    rw [hcm, hq2]
    dsimp only
    have hok : okC (wd, (kd, (dn, (b, (c', tx))))) (k0, (A, (Bv, (Cv, (dd, t))))) ↔ ((∀ o ∈ Bc b c', inC (Cy o (k0, (A, (Bv, (Cv, (dd, t))))))) ∧ (b = false → Bv = 0) ∧ (c' = false → Cv = 0) ∧ (tx = false → t = [])) := Iff.rfl
    by_cases hall : ∀ o ∈ Bc b c', inC (Cy o (k0, (A, (Bv, (Cv, (dd, t))))))
    ·rw [decide_eq_true hall]
     refine ⟨fun hb => ?_, fun hb => ?_⟩
     ·rw [if_neg]
      intro h
      have := (Pw b c' tx Bv Cv t).2 (hok.1 h).2
      rw [hb] at this
      cases this
     ·rw [if_pos (hok.2 ⟨hall, (Pw b c' tx Bv Cv t).1 hb⟩)]
    ·rw [decide_eq_false hall]
     refine ⟨fun _ => ?_, fun hb => ?_⟩
     ·rw [if_neg fun h => hall (hok.1 h).1]
     ·exfalso
      revert hb
      cases b <;> cases c' <;> cases tx <;> simp
 exact ⟨fun hb => (hkey.1 hb).symm, fun hb => (hkey.2 hb).symm⟩
end Go.VS
