/- The statements about scripts of commands. -/
import Derived.Test.YtcaandgkdmidkaaDoorKSpL32
import Derived.Test.YtcaandgkdmidkaaDoorKSpTxt
import Derived.Test.YtcaandgkdmidkaaDoorKSpPri
set_option linter.unusedVariables false
set_option linter.unusedSimpArgs false
namespace Go.VS
variable {P : Pg}
theorem Acu : ∃ f : Bs → Command × Int, ∀ s, KW s (f s) := by
 have h : ∀ s : Bs, ∃ d : Command × Int, KW s d := fun s => by
  by_cases hc : ∃ c, DN c = (s, 0)
  ·obtain ⟨c, hc⟩ := hc
   exact ⟨(c, 0), .inl ⟨rfl, hc⟩⟩
  ·exact ⟨(Da, 320), .inr ⟨rfl, fun c h => hc ⟨c, h⟩⟩⟩
 exact ⟨fun s => Classical.choose (h s), fun s => Classical.choose_spec (h s)⟩
def Z6 (f : Bs → Command × Int) : List Bs → List Command → Int → List Command × (Int × Int)
 | [], a, i => (a, (0, 0))
 | l :: r, a, i => if (f l).2 = 0 then Z6 f r (a ++ [(f l).1]) (i + 1) else ([], (i + 1, 320))
def AaU (f : Bs → Command × Int) (s : Bs) : List Command × (Int × Int) :=
 if s.length > 65536 ∨ (lnF s).length > 100 then ([], (0, 1)) else Z6 f ((lnF s).map YU) [] 0
theorem Abr {s : Bs} {d : Command × Int} (h : KW s d) (h0 : d.2 ≠ 0) : d.2 = 320 := by
 rcases h with ⟨h1, _⟩ | ⟨h1, _⟩
 ·exact absurd h1 h0
 ·rw [h1]
def Aai (P : Pg) : Prop := ∀ s : Bs, s.length ≤ 100000 → Fn P VI YI s fun (d : List Bs × Int) _ => d = if s.length > 65536 ∨ (lnF s).length > 100 then ([], 1) else ((lnF s).map YU, 0)
theorem Aa8 {α : Type} (f : α → α) (l : List α) (i : Nat) (h : i < l.length) (d : α) : ((l.take i).map f ++ l.drop i).set i (f (l.getD i d)) = (l.take (i + 1)).map f ++ l.drop (i + 1) := by
 rw [List.set_append_right i (f (l.getD i d)) (by rw [List.length_map, List.length_take]; omega), List.length_map, List.length_take, Nat.min_eq_left (by omega), Nat.sub_self, List.drop_eq_getElem_cons h, List.set_cons_zero, List.take_add_one, List.getElem?_eq_getElem h, getD_eq h, List.map_append, List.append_assoc]
 rfl
theorem AbJ (s : Bs) : (YU s).length ≤ s.length := by
 unfold YU
 split
 ·rw [List.length_take]; omega
 ·exact Nat.le_refl _
theorem Abd : ∀ (s acc : Bs), ∀ l ∈ lnN acc s, l.length ≤ acc.length + s.length
 | [], acc, l, h => nomatch h
 | b :: r, acc, l, h => by
  rw [lnN] at h
  split at h
  ·rcases List.mem_cons.1 h with rfl | h
   ·simp
   ·have := Abd r [] l h
    simp at this ⊢; omega
  ·have := Abd r _ l h
   simp at this ⊢; omega
theorem AbP (h : Has P Y4) (hS : ZE P) (hT : ZF P) : Aai P := by
 intro s hs
 refine Aao h ?_
 unfold ZQ
 refine ⟨fun hc => ?_, fun hc => ?_⟩
 ·have hc := of_decide_eq_true hc
  rw [if_pos (.inl (by omega))]
 have hc := of_decide_eq_false hc
 refine hS.at (by omega) ?_
 by_cases hk : Aae s = 0
 ·rw [if_pos hk]
  dsimp only
  by_cases hl : (lnF s).length > 100
  ·rw [if_pos (.inr hl)]
   exact ⟨fun _ => rfl, (by intro h2; rw [show decide ((((lnF s).length : Nat) : Int) > 100) = true from decide_eq_true (by omega)] at h2; cases h2)⟩
  rw [if_neg (by omega)]
  refine ⟨(by intro h2; rw [show decide ((((lnF s).length : Nat) : Int) > 100) = false from decide_eq_false (by omega)] at h2; cases h2), fun _ => ?_⟩
  refine Ao.mid (fun q => q = (lnF s).map YU) ?_ fun q hq => by rw [hq]
  refine Dm.of (fun q => (0 ≤ q.2.2 ∧ q.2.2 ≤ (lnF s).length ∧ q.2.1 = (lnF s).length) ∧ q.1 = ((lnF s).take q.2.2.toNat).map YU ++ (lnF s).drop q.2.2.toNat) (fun q => ((lnF s).length - q.2.2).toNat) ⟨⟨Int.le_refl _, by dsimp only; omega, rfl⟩, by simp⟩ ?_
  rintro ⟨l, m, i⟩ ⟨⟨i0, i1, hm⟩, hq⟩
  dsimp only at i0 i1 hm hq ⊢
  subst hm
  refine ⟨fun hi => ?_, fun hi => ?_⟩
  ·have hi := of_decide_eq_true hi
   have hln : l.length = (lnF s).length := by rw [hq, List.length_append, List.length_map, List.length_take, List.length_drop]; omega
   have hi2 : i.toNat < (lnF s).length := by omega
   have e0 : (((lnF s).length : Nat) : Int).toNat = (lnF s).length := rfl
   have eg : l.getD (0 + i.toNat) [] = (lnF s).getD i.toNat [] := by
    rw [Nat.zero_add, hq, List.getD_eq_getElem?_getD, List.getD_eq_getElem?_getD, List.getElem?_append_right (by rw [List.length_map, List.length_take]; omega), List.length_map, List.length_take, Nat.min_eq_left (by omega), Nat.sub_self, List.getElem?_drop]
    rfl
   have hgl : ((lnF s).getD i.toNat []).length ≤ s.length := by
    have h9 := Abd s [] _ (PM (l := lnF s) (d := ([] : Bs)) hi2)
    rw [List.length_nil, Nat.zero_add] at h9
    exact h9
   refine Ao.mid (fun q => q.1 = l.set i.toNat (YU ((lnF s).getD i.toNat [])) ∧ q.2 = (((lnF s).length : Nat) : Int)) ⟨⟨i0, by rw [e0]; exact hi⟩, by omega, hT.at (s := l.getD (0 + i.toNat) []) (by rw [eg]; omega) ⟨⟨i0, by omega⟩, by omega, by rw [eg], by rw [e0]⟩⟩ ?_
   rintro ⟨q1, q2⟩ ⟨h1, h2⟩
   dsimp only at h1 h2 ⊢
   rw [w64 (by omega) (by omega), h2, e0]
   refine ⟨⟨⟨by omega, by omega, rfl⟩, ?_⟩, by omega⟩
   rw [h1, hq, show (i + 1).toNat = i.toNat + 1 by omega]
   exact Aa8 YU _ _ hi2 []
  ·have hi := of_decide_eq_false hi
   rw [show i.toNat = (lnF s).length by omega, List.take_length, List.drop_length, List.append_nil] at hq
   exact hq
 ·rw [if_neg hk]
  have hl : (lnF s).length > 100 := by
   unfold Aae at hk
   split at hk
   ·omega
   ·exact absurd rfl hk
  rw [if_pos (.inr hl)]
  exact ⟨fun _ => rfl, (by intro h2; cases h2)⟩
def ZD (P : Pg) : Prop := ∀ f : Bs → Command × Int, (∀ s, KW s (f s)) → ∀ s : Bs, s.length ≤ 100000 → Fn P zS6 YE s fun (d : List Command × (Int × Int)) _ => d = AaU f s
theorem Abn (f : Bs → Command × Int) (L : List Bs) (i : Nat) (hi : i < L.length) (a : List Command) : Z6 f (L.drop i) a (i : Int) = if (f (L.getD i [])).2 = 0 then Z6 f (L.drop (i + 1)) (a ++ [(f (L.getD i [])).1]) ((i + 1 : Nat) : Int) else ([], ((i : Int) + 1, 320)) := by
 rw [List.drop_eq_getElem_cons hi, Z6, getD_eq hi]
 rfl
theorem AbS (h : Has P Y3) (hS : Aai P) (hP : Gj P) : ZD P := by
 intro f hf s hs
 refine Aaf h ?_
 unfold ZG
 refine (hS s hs).to ?_
 rintro (d : List Bs × Int) _ hd
 have hd : d = if s.length > 65536 ∨ (lnF s).length > 100 then ([], 1) else ((lnF s).map YU, 0) := hd
 unfold AaU
 by_cases hl : s.length > 65536 ∨ (lnF s).length > 100
 ·rw [if_pos hl] at hd
  subst hd
  rw [if_pos hl]
  exact ⟨fun _ => rfl, (by intro h2; cases h2)⟩
 rw [if_neg hl] at hd
 subst hd
 rw [if_neg hl]
 dsimp only
 have hLl : ((lnF s).map YU).length ≤ 100 := by rw [List.length_map]; omega
 have hLm : ∀ l ∈ (lnF s).map YU, l.length ≤ 100000 := by
  intro l hl
  obtain ⟨k, hk, rfl⟩ := List.mem_map.1 hl
  have h1 := AbJ k
  have h2 := Abd s [] k hk
  have h2 : k.length ≤ s.length := by simpa using h2
  omega
 generalize (lnF s).map YU = L at hLl hLm
 refine ⟨(by intro h2; cases h2), fun _ => ?_⟩
 refine Ao.mid (fun q => (q.2.2.2, ((0 : Int), (0 : Int))) = Z6 f L [] 0) ?_ fun q hq => hq
 refine Dm.of (fun q => (0 ≤ q.2.2.2.2 ∧ q.2.2.2.2 ≤ L.length) ∧ (q.2.2.2.1.length : Int) ≤ q.2.2.2.2 ∧ Z6 f (L.drop q.2.2.2.2.toNat) q.2.2.2.1 q.2.2.2.2 = Z6 f L [] 0) (fun q => (L.length - q.2.2.2.2).toNat) ⟨⟨Int.le_refl _, by dsimp only; omega⟩, by simp, rfl⟩ ?_
 rintro ⟨q1, q2, q3, a, i⟩ ⟨⟨i0, i1⟩, ha, hq⟩
 dsimp only at i0 i1 ha hq ⊢
 refine ⟨fun hi => ?_, fun hi => ?_⟩
 ·have hi := of_decide_eq_true hi
  have hi2 : i.toNat < L.length := by omega
  have e1 : ((i.toNat : Nat) : Int) = i := by omega
  have hst := Abn f L i.toNat hi2 a
  rw [e1] at hst
  rw [hst] at hq
  refine Ao.mid (fun q => q.2.2.2 = a ++ [(f (L.getD i.toNat [])).1] ∧ (f (L.getD i.toNat [])).2 = 0) ⟨⟨i0, hi⟩, hi2, (hP _ (hLm _ (PM hi2))).to ?_⟩ ?_
  ·rintro (d : Command × Int) _ hd
   have hd : KW _ d := hd
   have e := hd.eq (hf _)
   subst e
   refine ⟨fun h2 => ?_, fun h2 => ?_⟩
   ·have h2 : (f (L.getD i.toNat [])).2 ≠ 0 := by simpa using h2
    rw [if_neg h2] at hq
    rw [w64 (by omega) (by omega), Abr (hf _) h2]
    exact hq
   ·have h2 : (f (L.getD i.toNat [])).2 = 0 := by simpa using h2
    exact ⟨by simp only [List.length_cons, List.length_nil]; omega, rfl, h2⟩
  ·rintro ⟨r1, r2, r3, r4⟩ ⟨h1, h2⟩
   dsimp only at h1 h2 ⊢
   rw [if_pos h2, ← h1] at hq
   rw [w64 (by omega) (by omega)]
   refine ⟨⟨⟨by omega, by omega⟩, by rw [h1, List.length_append]; simp only [List.length_cons, List.length_nil]; omega, ?_⟩, by omega⟩
   rw [← hq, show (i + 1).toNat = i.toNat + 1 by omega, show ((i.toNat + 1 : Nat) : Int) = i + 1 by omega]
 ·have hi := of_decide_eq_false hi
  rw [show i.toNat = L.length by omega, List.drop_length, Z6] at hq
  exact hq
theorem ZD.at (h : ZD P) {f : Bs → Command × Int} (hf : ∀ s, KW s (f s)) {s : Bs} (hs : s.length ≤ 100000) {K : List Command × (Int × Int) → Unit → Prop} (hk : K (AaU f s) ()) : Fn P zS6 YE s K :=
 (h f hf s hs).to fun (d : List Command × (Int × Int)) _ hd => by
  have hd : d = AaU f s := hd
  subst hd
  exact hk
theorem AcT {t : Bs} (h : ∀ b ∈ t, b ≠ 10) : AcS (t ++ [10]) := ⟨t, rfl, h⟩
theorem AcN (t : Bs) : YU (t ++ [10]) = t := by
 unfold YU
 rw [ZX, if_pos (by decide)]
 simp
def AcF (L : List Bs) : Bs := (L.map (· ++ [10])).flatten
theorem AcO (L : List Bs) (t : Bs) : AcF (L ++ [t]) = AcF L ++ t ++ [10] := by
 unfold AcF
 simp
theorem AcW {L : List Bs} (h : ∀ t ∈ L, ∀ b ∈ t, b ≠ 10) : lnF (AcF L) = L.map (· ++ [10]) := by
 have := AcI (L.map (· ++ [10])) [] fun l hl => by
  obtain ⟨t, ht, rfl⟩ := List.mem_map.1 hl
  exact AcT (h t ht)
 rw [List.append_nil] at this
 unfold AcF
 rw [this]
 simp [lnF, lnN]
theorem AcX (f : Bs → Command × Int) {L : List Bs} (h : ∀ t ∈ L, ∀ b ∈ t, b ≠ 10) (hl : (AcF L).length ≤ 65536) : AaU f (AcF L) = if L.length > 100 then ([], (0, 1)) else Z6 f L [] 0 := by
 unfold AaU
 rw [AcW h, List.length_map, List.map_map]
 have e : (YU ∘ fun x => x ++ [10]) = id := funext fun t => AcN t
 rw [e, List.map_id]
 by_cases h1 : L.length > 100
 ·rw [if_pos (.inr h1), if_pos h1]
 ·rw [if_neg (by omega), if_neg h1]
theorem Ac5 : DN (1, (0, (0, (0, (false, []))))) = ([108, 111, 103, 32, 48], 0) := by
 have d0 : B5 0 = [48] := by unfold B5; rw [if_neg (by decide), show (0 : Int).toNat = 0 from rfl, Lib.decDigits]; rfl
 rw [UE (f := ([108, 111, 103], (1, (false, (false, (false, false)))))) (by decide) (by decide) (by decide), KF (by decide) (by decide)]
 simp [Gu, Dk, Bc, Cy, d0]
theorem Ac4 (h : Has P AcZ) (hS : ZD P) (hAw : Fi P) (x : Bool) :
  Fn P VJ AcY x fun (d : Bool) _ => d = true := by
 obtain ⟨f, hf⟩ := Acu
 refine Ac2 h ?_
 unfold Ac1
 refine Ao.mid (fun q => q = if x = true then (101, 1) else (100, 0)) ⟨fun hx => by rw [if_pos hx]; rfl, fun hx => by rw [hx]; rfl⟩ ?_
 rintro ⟨n, want⟩ hq
 obtain ⟨N, hN, hNn⟩ : ∃ N : Nat, n = N ∧ N = if x = true then 101 else 100 := by
  cases x
  ·cases hq; exact ⟨100, rfl, rfl⟩
  ·cases hq; exact ⟨101, rfl, rfl⟩
 have hN2 : N ≤ 101 := by rw [hNn]; split <;> decide
 refine Ao.mid (fun s => s = AcF (List.replicate N [108, 111, 103, 32, 48])) ?_ ?_
 ·refine Dm.of (fun q => (0 ≤ q.2 ∧ q.2 ≤ N) ∧ q.1 = AcF (List.replicate q.2.toNat [108, 111, 103, 32, 48]) ∧ (q.1.length : Int) = 6 * q.2) (fun q => (N - q.2).toNat) ⟨⟨Int.le_refl _, by dsimp only; omega⟩, rfl, rfl⟩ ?_
  rintro ⟨s, i⟩ ⟨⟨i0, i1⟩, hs, hsl⟩
  dsimp only at i0 i1 hs hsl ⊢
  refine ⟨fun hc => ?_, fun hc => ?_⟩
  ·have hc := of_decide_eq_true hc
   refine Ao.mid (fun q => q = AcF (List.replicate (i + 1).toNat [108, 111, 103, 32, 48]) ∧ (q.length : Int) = 6 * (i + 1)) ⟨by simp only [List.length_cons, List.length_nil]; omega, ?_, ?_⟩ fun q hq => ?_
   ·rw [show (i + 1).toNat = i.toNat + 1 by omega, List.replicate_succ', AcO, hs]
    simp
   ·rw [List.length_append]
    simp only [List.length_cons, List.length_nil]
    omega
   ·rw [w64 (by omega) (by omega)]
    exact ⟨⟨⟨by omega, by omega⟩, hq.1, hq.2⟩, by first | omega | (dsimp only; omega)⟩
  ·have hc := of_decide_eq_false hc
   rw [hs, show i = (N : Int) by omega]
   rfl
 ·rintro s rfl
  have hlm : ∀ t ∈ List.replicate N ([108, 111, 103, 32, 48] : Bs), ∀ b ∈ t, b ≠ 10 := by
   intro t ht
   rw [(List.mem_replicate.1 ht).2]
   decide
  have hcl : (AcF (List.replicate N ([108, 111, 103, 32, 48] : Bs))).length = 6 * N := by
   unfold AcF
   simp
   omega
  refine hS.at hf (by omega) ?_
  rw [AcX f hlm (by omega), List.length_replicate]
  cases x with
  | true =>
   have : N = 101 := hNn
   subst this
   cases hq
   rw [if_pos (by decide)]
   refine Ao.mid (fun d => d = true) ⟨fun _ => hAw.at rfl, fun hc => absurd hc (by decide), trivial⟩ ?_
   rintro d rfl
   rfl
  | false =>
   have : N = 100 := hNn
   subst this
   cases hq
   rw [if_neg (by decide)]
   have hsc : ∀ (k : Nat) (a : List Command) (i : Int), Z6 f (List.replicate k [108, 111, 103, 32, 48]) a i = (a ++ List.replicate k (f [108, 111, 103, 32, 48]).1, (0, 0)) := by
    have h0 : (f [108, 111, 103, 32, 48]).2 = 0 := by rw [(hf _).eq (.inl ⟨rfl, Ac5⟩ : KW _ ((1, (0, (0, (0, (false, []))))), 0))]
    intro k
    induction k with
    | zero => intro a i; simp [Z6]
    | succ k ih =>
     intro a i
     rw [List.replicate_succ, Z6, if_pos h0, ih]
     simp [List.replicate_succ]
   rw [hsc]
   simp only [List.nil_append, List.length_replicate]
   refine Ao.mid (fun d => d = true) ⟨fun _ => hAw.at rfl, fun hc => absurd hc (by decide), trivial⟩ ?_
   rintro d rfl
   rfl
end Go.VS
