/- The statements about scripts of commands. -/
import Derived.Test.YtcaandgkdmidkaaDoorKSpL32
import Derived.Test.YtcaandgkdmidkaaDoorKSpTxt
import Derived.Test.YtcaandgkdmidkaaDoorKSpPri
set_option linter.unusedVariables false
set_option linter.unusedSimpArgs false
namespace Go.VS
variable {P : Pg}
theorem AcH (s : Bs) : ∀ b ∈ Ar s, b ≠ 10 := fun b hb e => by
 subst e
 have := (AcK s 10 hb).1
 exact absurd this (by decide)
theorem AcR : ∀ (l : List Bs), ∀ b ∈ jq l, b ≠ 10
 | [], b, hb => nomatch hb
 | [a], b, hb => by rw [Q9] at hb; exact AcH a b hb
 | a :: c :: l, b, hb => by
  rw [Ra] at hb
  rcases List.mem_append.1 hb with hb | hb
  ·exact AcH a b hb
  ·rcases List.mem_cons.1 hb with rfl | hb
   ·decide
   ·exact AcR (c :: l) b hb
theorem AcU {c : Command} {t : Bs} (h : DN c = (t, 0)) : ∀ b ∈ t, b ≠ 10 := by
 obtain ⟨f, _, _, _, rfl⟩ := Hn h
 exact AcR _
theorem Acu : ∃ f : Bs → Command × Int, ∀ s, KW s (f s) := by
 have h : ∀ s : Bs, ∃ d : Command × Int, KW s d := fun s => by
  by_cases hc : ∃ c, DN c = (s, 0)
  ·obtain ⟨c, hc⟩ := hc
   exact ⟨(c, 0), .inl ⟨rfl, hc⟩⟩
  ·exact ⟨(Da, 320), .inr ⟨rfl, fun c h => hc ⟨c, h⟩⟩⟩
 exact ⟨fun s => Classical.choose (h s), fun s => Classical.choose_spec (h s)⟩
def Z6 (f : Bs → Command × Int) : List Bs → List Command → Int → List Command × (Int × Int)
 | [], a, i => (a, (0, 0))
 | l :: r, a, i => if (f l).2 = 0 then Z6 f r (a ++ [(f l).1]) (i + 1) else ([], (i + 1, 320))
def AaU (f : Bs → Command × Int) (s : Bs) : List Command × (Int × Int) :=
 if s.length > 65536 ∨ (lnF s).length > 100 then ([], (0, 1)) else Z6 f ((lnF s).map YU) [] 0
theorem Abr {s : Bs} {d : Command × Int} (h : KW s d) (h0 : d.2 ≠ 0) : d.2 = 320 := by
 rcases h with ⟨h1, _⟩ | ⟨h1, _⟩
 ·exact absurd h1 h0
 ·rw [h1]
def Aai (P : Pg) : Prop := ∀ s : Bs, s.length ≤ 100000 → Fn P Ab8 YI s fun (d : List Bs × Int) _ => d = if s.length > 65536 ∨ (lnF s).length > 100 then ([], 1) else ((lnF s).map YU, 0)
theorem Aa8 {α : Type} (f : α → α) (l : List α) (i : Nat) (h : i < l.length) (d : α) : ((l.take i).map f ++ l.drop i).set i (f (l.getD i d)) = (l.take (i + 1)).map f ++ l.drop (i + 1) := by
 rw [List.set_append_right i (f (l.getD i d)) (by rw [List.length_map, List.length_take]; omega), List.length_map, List.length_take, Nat.min_eq_left (by omega), Nat.sub_self, List.drop_eq_getElem_cons h, List.set_cons_zero, List.take_add_one, List.getElem?_eq_getElem h, getD_eq h, List.map_append, List.append_assoc]
 rfl
theorem AbJ (s : Bs) : (YU s).length ≤ s.length := by
 unfold YU
 split
 ·rw [List.length_take]; omega
 ·exact Nat.le_refl _
theorem Abd : ∀ (s acc : Bs), ∀ l ∈ lnN acc s, l.length ≤ acc.length + s.length
 | [], acc, l, h => nomatch h
 | b :: r, acc, l, h => by
  rw [lnN] at h
  split at h
  ·rcases List.mem_cons.1 h with rfl | h
   ·simp
   ·have := Abd r [] l h
    simp at this ⊢; omega
  ·have := Abd r _ l h
   simp at this ⊢; omega
theorem AbP (h : Has P Y4) (hS : ZE P) (hT : ZF P) : Aai P := by
 intro s hs
 refine Aao h ?_
 unfold ZQ
 refine ⟨fun hc => ?_, fun hc => ?_⟩
 ·have hc := of_decide_eq_true hc
  rw [if_pos (.inl (by omega))]
 have hc := of_decide_eq_false hc
 refine hS.at (by omega) ?_
 by_cases hk : Aae s = 0
 ·rw [if_pos hk]
  dsimp only
  by_cases hl : (lnF s).length > 100
  ·rw [if_pos (.inr hl)]
   exact ⟨fun _ => rfl, (by intro h2; rw [show decide ((((lnF s).length : Nat) : Int) > 100) = true from decide_eq_true (by omega)] at h2; cases h2)⟩
  rw [if_neg (by omega)]
  refine ⟨(by intro h2; rw [show decide ((((lnF s).length : Nat) : Int) > 100) = false from decide_eq_false (by omega)] at h2; cases h2), fun _ => ?_⟩
  refine Ao.mid (fun q => q = (lnF s).map YU) ?_ fun q hq => by rw [hq]
  refine Dm.of (fun q => (0 ≤ q.2.2 ∧ q.2.2 ≤ (lnF s).length ∧ q.2.1 = (lnF s).length) ∧ q.1 = ((lnF s).take q.2.2.toNat).map YU ++ (lnF s).drop q.2.2.toNat) (fun q => ((lnF s).length - q.2.2).toNat) ⟨⟨Int.le_refl _, by dsimp only; omega, rfl⟩, by simp⟩ ?_
  rintro ⟨l, m, i⟩ ⟨⟨i0, i1, hm⟩, hq⟩
  dsimp only at i0 i1 hm hq ⊢
  subst hm
  refine ⟨fun hi => ?_, fun hi => ?_⟩
  ·have hi := of_decide_eq_true hi
   have hln : l.length = (lnF s).length := by rw [hq, List.length_append, List.length_map, List.length_take, List.length_drop]; omega
   have hi2 : i.toNat < (lnF s).length := by omega
   have e0 : (((lnF s).length : Nat) : Int).toNat = (lnF s).length := rfl
   have eg : l.getD (0 + i.toNat) [] = (lnF s).getD i.toNat [] := by
    rw [Nat.zero_add, hq, List.getD_eq_getElem?_getD, List.getD_eq_getElem?_getD, List.getElem?_append_right (by rw [List.length_map, List.length_take]; omega), List.length_map, List.length_take, Nat.min_eq_left (by omega), Nat.sub_self, List.getElem?_drop]
    rfl
   have hgl : ((lnF s).getD i.toNat []).length ≤ s.length := by
    have h9 := Abd s [] _ (PM (l := lnF s) (d := ([] : Bs)) hi2)
    rw [List.length_nil, Nat.zero_add] at h9
    exact h9
   refine Ao.mid (fun q => q.1 = l.set i.toNat (YU ((lnF s).getD i.toNat [])) ∧ q.2 = (((lnF s).length : Nat) : Int)) ⟨⟨i0, by rw [e0]; exact hi⟩, by omega, hT.at (s := l.getD (0 + i.toNat) []) (by rw [eg]; omega) ⟨⟨i0, by omega⟩, by omega, by rw [eg], by rw [e0]⟩⟩ ?_
   rintro ⟨q1, q2⟩ ⟨h1, h2⟩
   dsimp only at h1 h2 ⊢
   rw [w64 (by omega) (by omega), h2, e0]
   refine ⟨⟨⟨by omega, by omega, rfl⟩, ?_⟩, by omega⟩
   rw [h1, hq, show (i + 1).toNat = i.toNat + 1 by omega]
   exact Aa8 YU _ _ hi2 []
  ·have hi := of_decide_eq_false hi
   rw [show i.toNat = (lnF s).length by omega, List.take_length, List.drop_length, List.append_nil] at hq
   exact hq
 ·rw [if_neg hk]
  have hl : (lnF s).length > 100 := by
   unfold Aae at hk
   split at hk
   ·omega
   ·exact absurd rfl hk
  rw [if_pos (.inr hl)]
  exact ⟨fun _ => rfl, (by intro h2; cases h2)⟩
def ZD (P : Pg) : Prop := ∀ f : Bs → Command × Int, (∀ s, KW s (f s)) → ∀ s : Bs, s.length ≤ 100000 → Fn P VG YE s fun (d : List Command × (Int × Int)) _ => d = AaU f s
theorem Abn (f : Bs → Command × Int) (L : List Bs) (i : Nat) (hi : i < L.length) (a : List Command) : Z6 f (L.drop i) a (i : Int) = if (f (L.getD i [])).2 = 0 then Z6 f (L.drop (i + 1)) (a ++ [(f (L.getD i [])).1]) ((i + 1 : Nat) : Int) else ([], ((i : Int) + 1, 320)) := by
 rw [List.drop_eq_getElem_cons hi, Z6, getD_eq hi]
 rfl
theorem AbS (h : Has P Y3) (hS : Aai P) (hP : Gj P) : ZD P := by
 intro f hf s hs
 refine Aaf h ?_
 unfold ZG
 refine (hS s hs).to ?_
 rintro (d : List Bs × Int) _ hd
 have hd : d = if s.length > 65536 ∨ (lnF s).length > 100 then ([], 1) else ((lnF s).map YU, 0) := hd
 unfold AaU
 by_cases hl : s.length > 65536 ∨ (lnF s).length > 100
 ·rw [if_pos hl] at hd
  subst hd
  rw [if_pos hl]
  exact ⟨fun _ => rfl, (by intro h2; cases h2)⟩
 rw [if_neg hl] at hd
 subst hd
 rw [if_neg hl]
 dsimp only
 have hLl : ((lnF s).map YU).length ≤ 100 := by rw [List.length_map]; omega
 have hLm : ∀ l ∈ (lnF s).map YU, l.length ≤ 100000 := by
  intro l hl
  obtain ⟨k, hk, rfl⟩ := List.mem_map.1 hl
  have h1 := AbJ k
  have h2 := Abd s [] k hk
  have h2 : k.length ≤ s.length := by simpa using h2
  omega
 generalize (lnF s).map YU = L at hLl hLm
 refine ⟨(by intro h2; cases h2), fun _ => ?_⟩
 refine Ao.mid (fun q => (q.2.2.2, ((0 : Int), (0 : Int))) = Z6 f L [] 0) ?_ fun q hq => hq
 refine Dm.of (fun q => (0 ≤ q.2.2.2.2 ∧ q.2.2.2.2 ≤ L.length) ∧ (q.2.2.2.1.length : Int) ≤ q.2.2.2.2 ∧ Z6 f (L.drop q.2.2.2.2.toNat) q.2.2.2.1 q.2.2.2.2 = Z6 f L [] 0) (fun q => (L.length - q.2.2.2.2).toNat) ⟨⟨Int.le_refl _, by dsimp only; omega⟩, by simp, rfl⟩ ?_
 rintro ⟨q1, q2, q3, a, i⟩ ⟨⟨i0, i1⟩, ha, hq⟩
 dsimp only at i0 i1 ha hq ⊢
 refine ⟨fun hi => ?_, fun hi => ?_⟩
 ·have hi := of_decide_eq_true hi
  have hi2 : i.toNat < L.length := by omega
  have e1 : ((i.toNat : Nat) : Int) = i := by omega
  have hst := Abn f L i.toNat hi2 a
  rw [e1] at hst
  rw [hst] at hq
  refine Ao.mid (fun q => q.2.2.2 = a ++ [(f (L.getD i.toNat [])).1] ∧ (f (L.getD i.toNat [])).2 = 0) ⟨⟨i0, hi⟩, hi2, (hP _ (hLm _ (PM hi2))).to ?_⟩ ?_
  ·rintro (d : Command × Int) _ hd
   have hd : KW _ d := hd
   have e := hd.eq (hf _)
   subst e
   refine ⟨fun h2 => ?_, fun h2 => ?_⟩
   ·have h2 : (f (L.getD i.toNat [])).2 ≠ 0 := by simpa using h2
    rw [if_neg h2] at hq
    rw [w64 (by omega) (by omega), Abr (hf _) h2]
    exact hq
   ·have h2 : (f (L.getD i.toNat [])).2 = 0 := by simpa using h2
    exact ⟨by simp only [List.length_cons, List.length_nil]; omega, rfl, h2⟩
  ·rintro ⟨r1, r2, r3, r4⟩ ⟨h1, h2⟩
   dsimp only at h1 h2 ⊢
   rw [if_pos h2, ← h1] at hq
   rw [w64 (by omega) (by omega)]
   refine ⟨⟨⟨by omega, by omega⟩, by rw [h1, List.length_append]; simp only [List.length_cons, List.length_nil]; omega, ?_⟩, by omega⟩
   rw [← hq, show (i + 1).toNat = i.toNat + 1 by omega, show ((i.toNat + 1 : Nat) : Int) = i + 1 by omega]
 ·have hi := of_decide_eq_false hi
  rw [show i.toNat = L.length by omega, List.drop_length, Z6] at hq
  exact hq
def Zi (P : Pg) : Prop := ∀ l : List Command, l.length ≤ 1000000 → Fn P VH YF (l, l) fun (d : Bool) _ => d = true
theorem Abo (h : Has P Y6) : Zi P := by
 intro l hl
 refine Aas h ?_
 unfold ZT
 dsimp only
 refine ⟨fun hc => by simp at hc, fun _ => ?_⟩
 refine Ao.mid (fun _ => True) ?_ fun _ _ => rfl
 refine Dm.of (fun q => 0 ≤ q.2 ∧ q.2 ≤ l.length) (fun q => (l.length - q.2).toNat) ⟨Int.le_refl _, by dsimp only; omega⟩ ?_
 rintro ⟨b, i⟩ ⟨i0, i1⟩
 dsimp only at i0 i1 ⊢
 refine ⟨fun hi => ?_, fun _ => trivial⟩
 have hi := of_decide_eq_true hi
 refine Ao.mid (fun _ => True) ⟨⟨i0, hi⟩, by omega, ⟨i0, hi⟩, by omega, fun hc => by simp at hc, fun _ => trivial⟩ fun _ _ => ?_
 rw [w64 (by omega) (by omega)]
 exact ⟨⟨by omega, by omega⟩, by omega⟩
theorem ZD.at (h : ZD P) {f : Bs → Command × Int} (hf : ∀ s, KW s (f s)) {s : Bs} (hs : s.length ≤ 100000) {K : List Command × (Int × Int) → Unit → Prop} (hk : K (AaU f s) ()) : Fn P VG YE s K :=
 (h f hf s hs).to fun (d : List Command × (Int × Int)) _ hd => by
  have hd : d = AaU f s := hd
  subst hd
  exact hk
theorem Zi.at (h : Zi P) {l : List Command} (hl : l.length ≤ 1000000) {K : Bool → Unit → Prop} (hk : K true ()) : Fn P VH YF (l, l) K :=
 (h l hl).to fun (d : Bool) _ hd => by
  have hd : d = true := hd
  subst hd
  exact hk
theorem AcT {t : Bs} (h : ∀ b ∈ t, b ≠ 10) : AcS (t ++ [10]) := ⟨t, rfl, h⟩
theorem AcN (t : Bs) : YU (t ++ [10]) = t := by
 unfold YU
 rw [ZX, if_pos (by decide)]
 simp
def AcF (L : List Bs) : Bs := (L.map (· ++ [10])).flatten
theorem AcO (L : List Bs) (t : Bs) : AcF (L ++ [t]) = AcF L ++ t ++ [10] := by
 unfold AcF
 simp
theorem AcW {L : List Bs} (h : ∀ t ∈ L, ∀ b ∈ t, b ≠ 10) : lnF (AcF L) = L.map (· ++ [10]) := by
 have := AcI (L.map (· ++ [10])) [] fun l hl => by
  obtain ⟨t, ht, rfl⟩ := List.mem_map.1 hl
  exact AcT (h t ht)
 rw [List.append_nil] at this
 unfold AcF
 rw [this]
 simp [lnF, lnN]
theorem AcX (f : Bs → Command × Int) {L : List Bs} (h : ∀ t ∈ L, ∀ b ∈ t, b ≠ 10) (hl : (AcF L).length ≤ 65536) : AaU f (AcF L) = if L.length > 100 then ([], (0, 1)) else Z6 f L [] 0 := by
 unfold AaU
 rw [AcW h, List.length_map, List.map_map]
 have e : (YU ∘ fun x => x ++ [10]) = id := funext fun t => AcN t
 rw [e, List.map_id]
 by_cases h1 : L.length > 100
 ·rw [if_pos (.inr h1), if_pos h1]
 ·rw [if_neg (by omega), if_neg h1]
def AcB (f : Bs → Command × Int) : List Bs → Int → Int
 | [], _ => 0
 | l :: r, i => if (f l).2 = 0 then AcB f r (i + 1) else i + 1
theorem AcE (f : Bs → Command × Int) (t : Bs) : ∀ (L : List Bs) (i : Int), 0 ≤ i → AcB f (L ++ [t]) i = if AcB f L i = 0 then (if (f t).2 = 0 then 0 else i + L.length + 1) else AcB f L i
 | [], i, hi => by
  rw [List.nil_append, AcB, AcB, if_pos rfl]
  split
  ·rfl
  ·simp
 | l :: r, i, hi => by
  rw [List.cons_append, AcB, AcB]
  split
  ·rw [AcE f t r (i + 1) (by omega)]
   rw [List.length_cons]
   split
   ·split
    ·rfl
    ·omega
   ·rfl
  ·rw [if_neg (by omega)]
theorem AcM (f : Bs → Command × Int) : ∀ (L : List Bs) (a : List Command) (i : Int), 0 ≤ i → Z6 f L a i = if AcB f L i = 0 then (a ++ L.map fun l => (f l).1, (0, 0)) else ([], (AcB f L i, 320))
 | [], a, i, hi => by simp [Z6, AcB]
 | l :: r, a, i, hi => by
  rw [Z6, AcB]
  split
  ·rw [AcM f r _ (i + 1) (by omega)]
   simp
  ·rw [if_neg (by omega)]
theorem AcL (f : Bs → Command × Int) : ∀ (L : List Bs) (i : Int), 0 ≤ i → 0 ≤ AcB f L i
 | [], i, hi => Int.le_refl _
 | l :: r, i, hi => by
  rw [AcB]
  split
  ·exact AcL f r (i + 1) (by omega)
  ·omega
theorem AcG (h : Has P Acy) (hMd : Gn P) (hF : Ey P) (hM : Iz P) (hP : Gj P) (hS : ZD P) (hC : Zi P) (hAw : Fi P) (x : List Int × (Int × Int)) :
  Fn P Ab9 Acx x fun (d : Bool) _ => d = true := by
 obtain ⟨raw, n, sp⟩ := x
 obtain ⟨f, hf⟩ := Acu
 refine AcC h ?_
 unfold AcA
 dsimp only
 refine hM.at (by decide) (by decide) ?_
 have hr := IP (a := n) (n := 6) (by decide) (by decide)
 generalize Nq n 6 = m at hr ⊢
 refine Ao.mid (fun q => ∃ L : List Bs, (L.length ≤ 6 ∧ (∀ t ∈ L, t.length ≤ 61 ∧ ∀ b ∈ t, b ≠ 10)) ∧ q = (AcF L, (L.map (fun l => (f l).1), AcB f L 0))) ?_ ?_
 ·refine Dm.of (fun q => (0 ≤ q.2.2.2 ∧ q.2.2.2 ≤ 6) ∧ ∃ L : List Bs, ((L.length : Int) = q.2.2.2 ∧ (∀ t ∈ L, t.length ≤ 61 ∧ ∀ b ∈ t, b ≠ 10)) ∧ q.1 = AcF L ∧ q.2.1 = L.map (fun l => (f l).1) ∧ q.2.2.1 = AcB f L 0 ∧ (q.1.length : Int) ≤ 62 * q.2.2.2) (fun q => (6 - q.2.2.2).toNat) ⟨⟨by decide, by decide⟩, [], ⟨rfl, by simp⟩, rfl, rfl, rfl, by simp⟩ ?_
  rintro ⟨s, l, bad, i⟩ ⟨⟨i0, i1⟩, L, ⟨hLl, hLm⟩, hs, hl, hb, hsl⟩
  dsimp only at i0 i1 hLl hLm hs hl hb hsl ⊢
  refine ⟨fun hc => ?_, fun _ => ⟨L, ⟨by omega, hLm⟩, by rw [hs, hl, hb]⟩⟩
  have hc := of_decide_eq_true hc
  rw [w64 (n := 20 * i) (by omega) (by omega), w64 (n := i + 1) (by omega) (by omega)]
  refine Ao.mid (fun q => ∃ t : Bs, (t.length ≤ 61 ∧ ∀ b ∈ t, b ≠ 10) ∧ q = (AcF (L ++ [t]), ((L ++ [t]).map (fun l => (f l).1), AcB f (L ++ [t]) 0)) ∧ (q.1.length : Int) ≤ 62 * (i + 1)) ?_ ?_
  ·refine hMd.at (by omega) (by omega) fun x hx => ?_
   have hxl := hx.len
   obtain ⟨t, ht, htl⟩ := hx.fmt
   refine hF.at (by omega) ?_
   rw [ht]
   refine hM.at (by decide) (by decide) ?_
   have htn := AcU ht
   refine Ao.mid (fun q => q.length ≤ 61 ∧ ∀ b ∈ q, b ≠ 10) ⟨fun _ => ⟨by simp only [List.length_cons, List.length_nil]; omega, by dsimp only; rw [List.length_append]; simp only [List.length_cons, List.length_nil]; omega, fun b hb => ?_⟩, fun _ => ⟨by dsimp only; omega, htn⟩⟩ fun u hu => ?_
   ·rcases List.mem_append.1 hb with hb | hb
    ·rw [List.mem_singleton.1 hb]; decide
    ·exact htn b hb
   refine (hP u (by omega)).to ?_
   rintro (d : Command × Int) _ hd
   have hd : KW _ d := hd
   have e := hd.eq (hf _)
   subst e
   refine Ao.mid (fun q => q = AcB f (L ++ [u]) 0) ⟨fun hcd => ?_, fun hcd => ?_⟩ fun q hq => ?_
   ·rw [AcE f u L 0 (Int.le_refl _), ← hb]
    by_cases h2 : (f u).2 = 0
    ·rw [h2] at hcd; cases hcd
    ·have h3 : ((f u).2 != 0) = true := by simpa using h2
     rw [h3, cond_true] at hcd
     have h4 : bad = 0 := by simpa using hcd
     rw [if_pos h4, if_neg h2]
     omega
   ·rw [AcE f u L 0 (Int.le_refl _), ← hb]
    by_cases h2 : (f u).2 = 0
    ·rw [if_pos h2]
     split
     ·omega
     ·rfl
    ·have h3 : ((f u).2 != 0) = true := by simpa using h2
     rw [h3, cond_true] at hcd
     have h4 : bad ≠ 0 := by simpa using hcd
     rw [if_neg h4]
   ·have hll : l.length = L.length := by rw [hl, List.length_map]
    refine ⟨by rw [hll]; simp only [List.length_cons, List.length_nil]; omega, by omega, by rw [List.length_append]; simp only [List.length_cons, List.length_nil]; omega, u, hu, ?_, ?_⟩
    ·rw [AcO, hq, hs, hl, List.map_append]
     rfl
    ·dsimp only
     rw [List.length_append, List.length_append]
     simp only [List.length_cons, List.length_nil]
     omega
  ·rintro ⟨q1, q2, q3⟩ ⟨t, ht, hq, hql⟩
   cases hq
   dsimp only at hql ⊢
   refine ⟨⟨⟨by omega, by omega⟩, L ++ [t], ⟨by rw [List.length_append]; simp only [List.length_cons, List.length_nil]; omega, fun u hu => ?_⟩, rfl, rfl, rfl, hql⟩, by omega⟩
   rcases List.mem_append.1 hu with hu | hu
   ·exact hLm u hu
   ·rw [List.mem_singleton.1 hu]; exact ht
 ·rintro ⟨s, l, bad⟩ ⟨L, ⟨hLl, hLm⟩, hq⟩
  cases hq
  dsimp only
  have hcl : ∀ M : List Bs, (∀ t ∈ M, t.length ≤ 61 ∧ ∀ b ∈ t, b ≠ 10) → (AcF M).length ≤ 62 * M.length := by
   intro M
   induction M with
   | nil => intro _; simp [AcF]
   | cons t M ih =>
    intro hm
    have h1 := ih fun u hu => hm u (List.mem_cons_of_mem _ hu)
    have h2 := (hm t (List.mem_cons_self ..)).1
    unfold AcF at h1 ⊢
    simp only [List.map_cons, List.flatten_cons, List.length_append, List.length_cons, List.length_nil] at h1 ⊢
    omega
  have h1 := hcl L hLm
  refine hS.at hf (by omega) ?_
  rw [AcX f (fun t ht => (hLm t ht).2) (by omega), if_neg (by omega), AcM f L [] 0 (Int.le_refl _)]
  have hbg := AcL f L 0 (Int.le_refl _)
  refine ⟨fun hb => ?_, fun hb => ?_⟩
  ·have hb := of_decide_eq_true hb
   rw [if_neg (by omega)]
   simp only [beq_self_eq_true, cond_true, List.length_nil]
   refine Ao.mid (fun d => d = true) ⟨fun _ => hAw.at rfl, fun hc => absurd hc (by simp), trivial⟩ ?_
   rintro d rfl
   rfl
  ·have hb := of_decide_eq_false hb
   rw [if_pos (by omega)]
   simp only [beq_self_eq_true, cond_true, List.nil_append]
   refine Ao.mid (fun d => d = true) ⟨fun _ => hC.at (by rw [List.length_map]; omega) rfl, fun hc => absurd hc (by simp), trivial⟩ ?_
   rintro d rfl
   simp only [cond_true]
   refine Ao.mid (fun d => d = true) ⟨fun _ => hAw.at rfl, fun hc => absurd hc (by simp), trivial⟩ ?_
   rintro d rfl
   rfl
end Go.VS
