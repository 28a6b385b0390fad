/- The statements about scripts of commands. -/
import Derived.Test.YtcaandgkdmidkaaDoorKSpL32
import Derived.Test.YtcaandgkdmidkaaDoorKSpTxt
import Derived.Test.YtcaandgkdmidkaaDoorKSpPri
set_option linter.unusedVariables false
set_option linter.unusedSimpArgs false
namespace Go.VS
variable {P : Pg}
theorem Acu : ∃ f : Bs → Command × Int, ∀ s, KW s (f s) := by
 have h : ∀ s : Bs, ∃ d : Command × Int, KW s d := fun s => by
  by_cases hc : ∃ c, DN c = (s, 0)
  ·obtain ⟨c, hc⟩ := hc
   exact ⟨(c, 0), .inl ⟨rfl, hc⟩⟩
  ·exact ⟨(Da, 320), .inr ⟨rfl, fun c h => hc ⟨c, h⟩⟩⟩
 exact ⟨fun s => Classical.choose (h s), fun s => Classical.choose_spec (h s)⟩
def Z6 (f : Bs → Command × Int) : List Bs → List Command → Int → List Command × (Int × Int)
 | [], a, i => (a, (0, 0))
 | l :: r, a, i => if (f l).2 = 0 then Z6 f r (a ++ [(f l).1]) (i + 1) else ([], (i + 1, 320))
def AaU (f : Bs → Command × Int) (s : Bs) : List Command × (Int × Int) :=
 if s.length > 65536 ∨ (lnF s).length > 100 then ([], (0, 1)) else Z6 f ((lnF s).map YU) [] 0
theorem Abr {s : Bs} {d : Command × Int} (h : KW s d) (h0 : d.2 ≠ 0) : d.2 = 320 := by
 rcases h with ⟨h1, _⟩ | ⟨h1, _⟩
 ·exact absurd h1 h0
 ·rw [h1]
def Aai (P : Pg) : Prop := ∀ s : Bs, s.length ≤ 100000 → Fn P Acf YI s fun (d : List Bs × Int) _ => d = if s.length > 65536 ∨ (lnF s).length > 100 then ([], 1) else ((lnF s).map YU, 0)
theorem Aa8 {α : Type} (f : α → α) (l : List α) (i : Nat) (h : i < l.length) (d : α) : ((l.take i).map f ++ l.drop i).set i (f (l.getD i d)) = (l.take (i + 1)).map f ++ l.drop (i + 1) := by
 rw [List.set_append_right i (f (l.getD i d)) (by rw [List.length_map, List.length_take]; omega), List.length_map, List.length_take, Nat.min_eq_left (by omega), Nat.sub_self, List.drop_eq_getElem_cons h, List.set_cons_zero, List.take_add_one, List.getElem?_eq_getElem h, getD_eq h, List.map_append, List.append_assoc]
 rfl
theorem AbJ (s : Bs) : (YU s).length ≤ s.length := by
 unfold YU
 split
 ·rw [List.length_take]; omega
 ·exact Nat.le_refl _
theorem Abd : ∀ (s acc : Bs), ∀ l ∈ lnN acc s, l.length ≤ acc.length + s.length
 | [], acc, l, h => nomatch h
 | b :: r, acc, l, h => by
  rw [lnN] at h
  split at h
  ·rcases List.mem_cons.1 h with rfl | h
   ·simp
   ·have := Abd r [] l h
    simp at this ⊢; omega
  ·have := Abd r _ l h
   simp at this ⊢; omega
theorem AbP (h : Has P Y4) (hS : ZE P) (hT : ZF P) : Aai P := by
 intro s hs
 refine Aao h ?_
 unfold ZQ
 refine ⟨fun hc => ?_, fun hc => ?_⟩
 ·have hc := of_decide_eq_true hc
  rw [if_pos (.inl (by omega))]
 have hc := of_decide_eq_false hc
 refine hS.at (by omega) ?_
 by_cases hk : Aae s = 0
 ·rw [if_pos hk]
  dsimp only
  by_cases hl : (lnF s).length > 100
  ·rw [if_pos (.inr hl)]
   exact ⟨fun _ => rfl, (by intro h2; rw [show decide ((((lnF s).length : Nat) : Int) > 100) = true from decide_eq_true (by omega)] at h2; cases h2)⟩
  rw [if_neg (by omega)]
  refine ⟨(by intro h2; rw [show decide ((((lnF s).length : Nat) : Int) > 100) = false from decide_eq_false (by omega)] at h2; cases h2), fun _ => ?_⟩
  refine Ao.mid (fun q => q = (lnF s).map YU) ?_ fun q hq => by rw [hq]
  refine Dm.of (fun q => (0 ≤ q.2.2 ∧ q.2.2 ≤ (lnF s).length ∧ q.2.1 = (lnF s).length) ∧ q.1 = ((lnF s).take q.2.2.toNat).map YU ++ (lnF s).drop q.2.2.toNat) (fun q => ((lnF s).length - q.2.2).toNat) ⟨⟨Int.le_refl _, by dsimp only; omega, rfl⟩, by simp⟩ ?_
  rintro ⟨l, m, i⟩ ⟨⟨i0, i1, hm⟩, hq⟩
  dsimp only at i0 i1 hm hq ⊢
  subst hm
  refine ⟨fun hi => ?_, fun hi => ?_⟩
  ·have hi := of_decide_eq_true hi
   have hln : l.length = (lnF s).length := by rw [hq, List.length_append, List.length_map, List.length_take, List.length_drop]; omega
   have hi2 : i.toNat < (lnF s).length := by omega
   have e0 : (((lnF s).length : Nat) : Int).toNat = (lnF s).length := rfl
   have eg : l.getD (0 + i.toNat) [] = (lnF s).getD i.toNat [] := by
    rw [Nat.zero_add, hq, List.getD_eq_getElem?_getD, List.getD_eq_getElem?_getD, List.getElem?_append_right (by rw [List.length_map, List.length_take]; omega), List.length_map, List.length_take, Nat.min_eq_left (by omega), Nat.sub_self, List.getElem?_drop]
    rfl
   have hgl : ((lnF s).getD i.toNat []).length ≤ s.length := by
    have h9 := Abd s [] _ (PM (l := lnF s) (d := ([] : Bs)) hi2)
    rw [List.length_nil, Nat.zero_add] at h9
    exact h9
   refine Ao.mid (fun q => q.1 = l.set i.toNat (YU ((lnF s).getD i.toNat [])) ∧ q.2 = (((lnF s).length : Nat) : Int)) ⟨⟨i0, by rw [e0]; exact hi⟩, by omega, hT.at (s := l.getD (0 + i.toNat) []) (by rw [eg]; omega) ⟨⟨i0, by omega⟩, by omega, by rw [eg], by rw [e0]⟩⟩ ?_
   rintro ⟨q1, q2⟩ ⟨h1, h2⟩
   dsimp only at h1 h2 ⊢
   rw [w64 (by omega) (by omega), h2, e0]
   refine ⟨⟨⟨by omega, by omega, rfl⟩, ?_⟩, by omega⟩
   rw [h1, hq, show (i + 1).toNat = i.toNat + 1 by omega]
   exact Aa8 YU _ _ hi2 []
  ·have hi := of_decide_eq_false hi
   rw [show i.toNat = (lnF s).length by omega, List.take_length, List.drop_length, List.append_nil] at hq
   exact hq
 ·rw [if_neg hk]
  have hl : (lnF s).length > 100 := by
   unfold Aae at hk
   split at hk
   ·omega
   ·exact absurd rfl hk
  rw [if_pos (.inr hl)]
  exact ⟨fun _ => rfl, (by intro h2; cases h2)⟩
def ZD (P : Pg) : Prop := ∀ f : Bs → Command × Int, (∀ s, KW s (f s)) → ∀ s : Bs, s.length ≤ 100000 → Fn P Uc YE s fun (d : List Command × (Int × Int)) _ => d = AaU f s
theorem Abn (f : Bs → Command × Int) (L : List Bs) (i : Nat) (hi : i < L.length) (a : List Command) : Z6 f (L.drop i) a (i : Int) = if (f (L.getD i [])).2 = 0 then Z6 f (L.drop (i + 1)) (a ++ [(f (L.getD i [])).1]) ((i + 1 : Nat) : Int) else ([], ((i : Int) + 1, 320)) := by
 rw [List.drop_eq_getElem_cons hi, Z6, getD_eq hi]
 rfl
theorem AbS (h : Has P Y3) (hS : Aai P) (hP : Gj P) : ZD P := by
 intro f hf s hs
 refine Aaf h ?_
 unfold ZG
 refine (hS s hs).to ?_
 rintro (d : List Bs × Int) _ hd
 have hd : d = if s.length > 65536 ∨ (lnF s).length > 100 then ([], 1) else ((lnF s).map YU, 0) := hd
 unfold AaU
 by_cases hl : s.length > 65536 ∨ (lnF s).length > 100
 ·rw [if_pos hl] at hd
  subst hd
  rw [if_pos hl]
  exact ⟨fun _ => rfl, (by intro h2; cases h2)⟩
 rw [if_neg hl] at hd
 subst hd
 rw [if_neg hl]
 dsimp only
 have hLl : ((lnF s).map YU).length ≤ 100 := by rw [List.length_map]; omega
 have hLm : ∀ l ∈ (lnF s).map YU, l.length ≤ 100000 := by
  intro l hl
  obtain ⟨k, hk, rfl⟩ := List.mem_map.1 hl
  have h1 := AbJ k
  have h2 := Abd s [] k hk
  have h2 : k.length ≤ s.length := by simpa using h2
  omega
 generalize (lnF s).map YU = L at hLl hLm
 refine ⟨(by intro h2; cases h2), fun _ => ?_⟩
 refine Ao.mid (fun q => (q.2.2.2, ((0 : Int), (0 : Int))) = Z6 f L [] 0) ?_ fun q hq => hq
 refine Dm.of (fun q => (0 ≤ q.2.2.2.2 ∧ q.2.2.2.2 ≤ L.length) ∧ (q.2.2.2.1.length : Int) ≤ q.2.2.2.2 ∧ Z6 f (L.drop q.2.2.2.2.toNat) q.2.2.2.1 q.2.2.2.2 = Z6 f L [] 0) (fun q => (L.length - q.2.2.2.2).toNat) ⟨⟨Int.le_refl _, by dsimp only; omega⟩, by simp, rfl⟩ ?_
 rintro ⟨q1, q2, q3, a, i⟩ ⟨⟨i0, i1⟩, ha, hq⟩
 dsimp only at i0 i1 ha hq ⊢
 refine ⟨fun hi => ?_, fun hi => ?_⟩
 ·have hi := of_decide_eq_true hi
  have hi2 : i.toNat < L.length := by omega
  have e1 : ((i.toNat : Nat) : Int) = i := by omega
  have hst := Abn f L i.toNat hi2 a
  rw [e1] at hst
  rw [hst] at hq
  refine Ao.mid (fun q => q.2.2.2 = a ++ [(f (L.getD i.toNat [])).1] ∧ (f (L.getD i.toNat [])).2 = 0) ⟨⟨i0, hi⟩, hi2, (hP _ (hLm _ (PM hi2))).to ?_⟩ ?_
  ·rintro (d : Command × Int) _ hd
   have hd : KW _ d := hd
   have e := hd.eq (hf _)
   subst e
   refine ⟨fun h2 => ?_, fun h2 => ?_⟩
   ·have h2 : (f (L.getD i.toNat [])).2 ≠ 0 := by simpa using h2
    rw [if_neg h2] at hq
    rw [w64 (by omega) (by omega), Abr (hf _) h2]
    exact hq
   ·have h2 : (f (L.getD i.toNat [])).2 = 0 := by simpa using h2
    exact ⟨by simp only [List.length_cons, List.length_nil]; omega, rfl, h2⟩
  ·rintro ⟨r1, r2, r3, r4⟩ ⟨h1, h2⟩
   dsimp only at h1 h2 ⊢
   rw [if_pos h2, ← h1] at hq
   rw [w64 (by omega) (by omega)]
   refine ⟨⟨⟨by omega, by omega⟩, by rw [h1, List.length_append]; simp only [List.length_cons, List.length_nil]; omega, ?_⟩, by omega⟩
   rw [← hq, show (i + 1).toNat = i.toNat + 1 by omega, show ((i.toNat + 1 : Nat) : Int) = i + 1 by omega]
 ·have hi := of_decide_eq_false hi
  rw [show i.toNat = L.length by omega, List.drop_length, Z6] at hq
  exact hq
def Zu (P : Pg) : Prop := ∀ f : Bs → Command × Int, (∀ s, KW s (f s)) → ∀ s : Bs, s.length ≤ 100000 → Fn P Ud YG s fun (d : List Command × (Int × Int)) _ => d = AaU f s
theorem AbI (h : Has P Y8) (hL : Z4 P) (hB : Aay P) (hP : Zt P) : Zu P := by
 intro f hf s hs
 refine Aau h ?_
 unfold ZV
 refine (hL s (by omega)).to ?_
 rintro (d : List Bs) _ hd
 have hd : d = lnF s := hd
 subst hd
 unfold AaU
 have hcd : (cond (decide (((List.length s : Nat) : Int) > (65536 : Int))) true (decide (((List.length (lnF s) : Nat) : Int) > (100 : Int)))) = decide (s.length > 65536 ∨ (lnF s).length > 100) := by
  by_cases h1 : s.length > 65536
  ·rw [show decide (((List.length s : Nat) : Int) > (65536 : Int)) = true from decide_eq_true (by omega), show decide (s.length > 65536 ∨ (lnF s).length > 100) = true from decide_eq_true (.inl h1)]
   rfl
  ·rw [show decide (((List.length s : Nat) : Int) > (65536 : Int)) = false from decide_eq_false (by omega), cond_false]
   exact decide_eq_decide.2 ⟨fun h => .inr (by omega), fun h => by omega⟩
 rw [hcd]
 refine ⟨fun h2 => by rw [if_pos (of_decide_eq_true h2)], fun h2 => ?_⟩
 have hl := of_decide_eq_false h2
 rw [if_neg hl]
 have hLl : (lnF s).length ≤ 100 := by omega
 have hLm : ∀ l ∈ lnF s, l.length ≤ 100000 := by
  intro l hl
  have h2 := Abd s [] l hl
  have h2 : l.length ≤ s.length := by simpa using h2
  omega
 generalize lnF s = L at hLl hLm
 refine Ao.mid (fun q => (q.2.2.2, ((0 : Int), (0 : Int))) = Z6 f (L.map YU) [] 0) ?_ fun q hq => hq
 refine Dm.of (fun q => (0 ≤ q.2.2.2.2 ∧ q.2.2.2.2 ≤ L.length) ∧ (q.2.2.2.1.length : Int) ≤ q.2.2.2.2 ∧ Z6 f ((L.map YU).drop q.2.2.2.2.toNat) q.2.2.2.1 q.2.2.2.2 = Z6 f (L.map YU) [] 0) (fun q => (L.length - q.2.2.2.2).toNat) ⟨⟨Int.le_refl _, by dsimp only; omega⟩, by simp, rfl⟩ ?_
 rintro ⟨q1, q2, q3, a, i⟩ ⟨⟨i0, i1⟩, ha, hq⟩
 dsimp only at i0 i1 ha hq ⊢
 refine ⟨fun hi => ?_, fun hi => ?_⟩
 ·have hi := of_decide_eq_true hi
  have hi2 : i.toNat < L.length := by omega
  have e1 : ((i.toNat : Nat) : Int) = i := by omega
  have hst := Abn f (L.map YU) i.toNat (by rw [List.length_map]; exact hi2) a
  have eg : (L.map YU).getD i.toNat [] = YU (L.getD i.toNat []) := by
   rw [getD_eq (by rw [List.length_map]; exact hi2), getD_eq hi2, List.getElem_map]
  rw [e1, eg] at hst
  rw [hst] at hq
  have hml := hLm _ (PM (d := ([] : Bs)) hi2)
  have hbl := AbJ (L.getD i.toNat [])
  refine Ao.mid (fun q => q.2.2.2 = a ++ [(f (YU (L.getD i.toNat []))).1] ∧ (f (YU (L.getD i.toNat []))).2 = 0) ⟨⟨i0, hi⟩, hi2, (hB (L.getD i.toNat []) (Nat.le_trans hml (by decide))).to ?_⟩ ?_
  ·rintro (b : Bs) _ hb
   have hb : b = YU (L.getD i.toNat []) := hb
   subst hb
   refine (hP _ (by omega)).to ?_
   rintro (d : Command × Int) _ hd
   have hd : KW _ d := hd
   have e := hd.eq (hf _)
   subst e
   refine ⟨fun h2 => ?_, fun h2 => ?_⟩
   ·have h2 : (f (YU (L.getD i.toNat []))).2 ≠ 0 := by simpa using h2
    rw [if_neg h2] at hq
    rw [w64 (by omega) (by omega), Abr (hf _) h2]
    exact hq
   ·have h2 : (f (YU (L.getD i.toNat []))).2 = 0 := by simpa using h2
    exact ⟨by simp only [List.length_cons, List.length_nil]; omega, rfl, h2⟩
  ·rintro ⟨r1, r2, r3, r4⟩ ⟨h1, h2⟩
   dsimp only at h1 h2 ⊢
   rw [if_pos h2, ← h1] at hq
   rw [w64 (by omega) (by omega)]
   refine ⟨⟨⟨by omega, by omega⟩, by rw [h1, List.length_append]; simp only [List.length_cons, List.length_nil]; omega, ?_⟩, by omega⟩
   rw [← hq, show (i + 1).toNat = i.toNat + 1 by omega, show ((i.toNat + 1 : Nat) : Int) = i + 1 by omega]
 ·have hi := of_decide_eq_false hi
  rw [show i.toNat = (L.map YU).length by rw [List.length_map]; omega, List.drop_length, Z6] at hq
  exact hq
def Zi (P : Pg) : Prop := ∀ l : List Command, l.length ≤ 1000000 → Fn P Ue YF (l, l) fun (d : Bool) _ => d = true
theorem Abo (h : Has P Y6) : Zi P := by
 intro l hl
 refine Aas h ?_
 unfold ZT
 dsimp only
 refine ⟨fun hc => by simp at hc, fun _ => ?_⟩
 refine Ao.mid (fun _ => True) ?_ fun _ _ => rfl
 refine Dm.of (fun q => 0 ≤ q.2 ∧ q.2 ≤ l.length) (fun q => (l.length - q.2).toNat) ⟨Int.le_refl _, by dsimp only; omega⟩ ?_
 rintro ⟨b, i⟩ ⟨i0, i1⟩
 dsimp only at i0 i1 ⊢
 refine ⟨fun hi => ?_, fun _ => trivial⟩
 have hi := of_decide_eq_true hi
 refine Ao.mid (fun _ => True) ⟨⟨i0, hi⟩, by omega, ⟨i0, hi⟩, by omega, fun hc => by simp at hc, fun _ => trivial⟩ fun _ _ => ?_
 rw [w64 (by omega) (by omega)]
 exact ⟨⟨by omega, by omega⟩, by omega⟩
theorem Abm (f : Bs → Command × Int) : ∀ (L : List Bs) (a : List Command) (i : Int), (Z6 f L a i).1.length ≤ a.length + L.length
 | [], a, i => Nat.le_refl _
 | l :: r, a, i => by
  rw [Z6]
  split
  ·have := Abm f r (a ++ [(f l).1]) (i + 1)
   simp only [List.length_append, List.length_cons, List.length_nil] at this ⊢
   omega
  ·exact Nat.zero_le _
theorem Abl (f : Bs → Command × Int) (s : Bs) : (AaU f s).1.length ≤ 100 := by
 unfold AaU
 split
 ·exact Nat.zero_le _
 ·rename_i h
  have := Abm f ((lnF s).map YU) [] 0
  simp only [List.length_map, List.length_nil] at this
  omega
theorem ZD.at (h : ZD P) {f : Bs → Command × Int} (hf : ∀ s, KW s (f s)) {s : Bs} (hs : s.length ≤ 100000) {K : List Command × (Int × Int) → Unit → Prop} (hk : K (AaU f s) ()) : Fn P Uc YE s K :=
 (h f hf s hs).to fun (d : List Command × (Int × Int)) _ hd => by
  have hd : d = AaU f s := hd
  subst hd
  exact hk
theorem Zu.at (h : Zu P) {f : Bs → Command × Int} (hf : ∀ s, KW s (f s)) {s : Bs} (hs : s.length ≤ 100000) {K : List Command × (Int × Int) → Unit → Prop} (hk : K (AaU f s) ()) : Fn P Ud YG s K :=
 (h f hf s hs).to fun (d : List Command × (Int × Int)) _ hd => by
  have hd : d = AaU f s := hd
  subst hd
  exact hk
theorem Zi.at (h : Zi P) {l : List Command} (hl : l.length ≤ 1000000) {K : Bool → Unit → Prop} (hk : K true ()) : Fn P Ue YF (l, l) K :=
 (h l hl).to fun (d : Bool) _ hd => by
  have hd : d = true := hd
  subst hd
  exact hk
def Aan (P : Pg) : Prop := ∀ x : List Int × (Int × Int), Fn P Acb YV x fun (d : Bs) _ => d.length ≤ 10000
theorem AbW (h : Has P Zm) (hMd : Gn P) (hF : Ey P) (hM : Iz P) (hS : Yt P) : Aan P := by
 rintro ⟨raw, n, sp⟩
 refine AaJ h ?_
 unfold Z8
 dsimp only
 refine Ao.mid (fun d => d.length ≤ 10000) ?_ fun _ h => h
 refine Dm.of (fun q => (0 ≤ q.2 ∧ q.2 ≤ 6) ∧ (q.1.length : Int) ≤ 100 * q.2) (fun q => (6 - q.2).toNat) ⟨⟨by decide, by decide⟩, by simp⟩ ?_
 rintro ⟨s, i⟩ ⟨⟨i0, i1⟩, hs⟩
 dsimp only at i0 i1 hs ⊢
 refine hM.at (by decide) (by decide) ?_
 have hr := IP (a := n) (n := 6) (by decide) (by decide)
 generalize Nq n 6 = m at hr ⊢
 refine ⟨fun hc => ?_, fun _ => by omega⟩
 have hc := of_decide_eq_true hc
 rw [w64 (n := 20 * i) (by omega) (by omega)]
 refine Ao.mid (fun q => (q.length : Int) ≤ 100 * i + 90) ?_ fun q hq => by
  rw [w64 (by omega) (by omega)]
  exact ⟨⟨⟨by omega, by omega⟩, by first | omega | (dsimp only; omega)⟩, by first | omega | (dsimp only; omega)⟩
 refine hMd.at (by omega) (by omega) fun x hx => ?_
 have hxl := hx.len
 obtain ⟨t, ht, htl⟩ := hx.fmt
 refine hF.at (by omega) ?_
 rw [ht]
 refine hM.at (by decide) (by decide) ?_
 refine Ao.mid (fun q => q.length ≤ 61) ⟨fun _ => ⟨by decide, by decide, (hS (t, _) (by dsimp only; omega)).to fun (u : Bs) _ hu => ?_⟩, fun _ => by dsimp only; omega⟩ fun q hq => ?_
 ·have hu : u.length ≤ t.length + 1 := hu
  show u.length ≤ 61
  omega
 ·refine ⟨by omega, by rw [List.length_append]; simp only [List.length_cons, List.length_nil]; omega, ?_⟩
  show ((s ++ q ++ [10]).length : Int) ≤ _
  rw [List.length_append, List.length_append]
  simp only [List.length_cons, List.length_nil]
  omega
theorem Aah (h : Has P YN) (hT : Aan P) (hS : ZD P) (hR : Zu P) (hC : Zi P) (hAw : Fi P) (x : Bs × (List Int × (Int × Int))) :
  Fn P Acw YD x fun (d : Bool) _ => d = true := by
 obtain ⟨s, r⟩ := x
 obtain ⟨f, hf⟩ := Acu
 refine ZH h ?_
 unfold Y9
 dsimp only
 refine ⟨fun _ => hAw.at rfl, fun hc => ?_⟩
 have hc := of_decide_eq_false hc
 refine (hT r).to ?_
 rintro (t : Bs) _ ht
 have ht : t.length ≤ 10000 := ht
 refine hS.at hf (by omega) (hR.at hf (by omega) (hS.at hf (by omega) (hR.at hf (by omega) ?_)))
 have h1 := Abl f s
 have h2 := Abl f t
 refine hC.at (by omega) ?_
 simp only [beq_self_eq_true, cond_true]
 refine Ao.mid (fun d => d = true) ⟨fun _ => hC.at (by omega) rfl, fun hc => absurd hc (by simp), trivial⟩ ?_
 rintro d rfl
 simp only [cond_true]
 refine Ao.mid (fun d => d = true) ⟨fun _ => hAw.at rfl, fun hc => absurd hc (by simp), trivial⟩ ?_
 rintro d rfl
 rfl
end Go.VS
