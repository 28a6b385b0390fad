/- Weights of what is read of a pattern. -/
import Derived.Test.YtobddjdmgebmgaaKSpPars
import Derived.Test.YtobddjdmgebmgaaKSpWt
set_option linter.unusedVariables false
set_option linter.unusedSimpArgs false
set_option linter.unusedSectionVars false
namespace Go.VS
variable {P : Program}
def wtl (l : List Node) (k : Int) : Int := (wts l).getD k.toNat 0
def NOk (l : List Node) : Prop := ∀ i, i < l.length → okNode (l.getD i zNode) i
theorem capW_le (n : Int) : capW n ≤ n := by unfold capW; split <;> omega
theorem wtl_app {l m : List Node} {k : Int} (h : k < (l.length : Int)) (h0 : 0 ≤ k) : wtl (l ++ m) k = wtl l k := by
 unfold wtl
 have := wts_take_getD (l ++ m) (i := l.length) (j := k.toNat) (by omega) (by simp)
 rw [← this, List.take_left]
theorem wtl_last {l : List Node} {n : Node} : wtl (l ++ [n]) (l.length : Int) = wtNode n (wts l) := by
 unfold wtl
 rw [wts_snoc]
 have := @getD_append_at _ (wts l) (wtNode n (wts l)) 0
 rw [wts_length] at this
 exact this
theorem sumW_app {l m : List Node} {kids : List Int} (h : ∀ k ∈ kids, 0 ≤ k ∧ k < (l.length : Int)) : sumW (wts (l ++ m)) kids = sumW (wts l) kids := by
 have : ∀ (kids : List Int) (n : Int), (∀ k ∈ kids, 0 ≤ k ∧ k < (l.length : Int)) → kids.foldl (fun n k => capW (n + (wts (l ++ m)).getD k.toNat 0)) n = kids.foldl (fun n k => capW (n + (wts l).getD k.toNat 0)) n := by
  intro kids
  induction kids with
  | nil => intro n _; rfl
  | cons k kids ih =>
   intro n h
   simp only [List.foldl_cons]
   have hk := h k (by simp)
   have e : (wts (l ++ m)).getD k.toNat 0 = (wts l).getD k.toNat 0 := wtl_app hk.2 hk.1
   rw [e]
   exact ih _ fun q hq => h q (by simp [hq])
 exact this kids 0 h
theorem NOk.ext {s : Bs} {a b x : Nat} {l l' : List Node} (h : NOk l) (hp : ∃ m, l' = l ++ m) (hn : ∀ i, l.length ≤ i → i < l'.length → okNode (l'.getD i zNode) i) : NOk l' := by
 intro i hi
 rcases Nat.lt_or_ge i l.length with h1 | h1
 ·obtain ⟨m, rfl⟩ := hp
  rw [getD_append_left h1]
  exact h i h1
 ·exact hn i h1 hi
theorem wt_one {k : Int} (h : k ≤ 3) (w : Set4) (ws : List Int) : wtNode (k, (w, ((0 : Int), ((0 : Int), [])))) ws = 1 := by
 unfold wtNode
 dsimp only
 rw [if_neg (by omega), if_neg (by omega), if_neg (by omega)]
theorem sumW_one {l : List Node} (h : NOk l) (k : Int) : sumW (wts l) [k] = wtl l k := by
 have h1 := inW_wts h k.toNat
 show capW (0 + (wts l).getD k.toNat 0) = _
 unfold capW wtl
 split <;> omega
def LoopC (s : Bs) (d : Int) (a : Nat) : Prop := a < s.length ∧ byt s a ≠ 124 ∧ ¬ (byt s a = 41 ∧ d > 0)
section
variable {rec : Int → Nat → List Node → PRes} {s : Bs} {d : Int} {I : Nat → Prop} {c : Int}
def LightP (rec : Int → Nat → List Node → PRes) (s : Bs) (d : Int) (I : Nat → Prop) (c : Int) : Prop := ∀ (a : Nat) (l : List Node) (k : Int) (b : Nat) (l' : List Node), I a → LoopC s d a → NOk l → pieceF rec s d a l = .ok (k, (b, l')) → I b ∧ wtl l' k ≤ c * ((b : Int) - a)
theorem altLoop_w (hrec : ∀ d a l, a ≤ s.length → GrowR s a l 0 (rec d a l)) (hp : LightP rec s d I c) : ∀ {f : Nat} {kids : List Int} {a : Nat} {l : List Node} {kids' : List Int} {b : Nat} {l' : List Node}, I a → a ≤ s.length → NOk l → (∀ k ∈ kids, 0 ≤ k ∧ k < (l.length : Int)) → altLoop rec s d f kids a l = .ok (kids', (b, l')) →
  I b ∧ ¬ LoopC s d b ∧ a ≤ b ∧ NOk l' ∧ (∀ k ∈ kids', 0 ≤ k ∧ k < (l'.length : Int)) ∧ sumW (wts l') kids' ≤ sumW (wts l) kids + c * ((b : Int) - a)
 | 0, _, _, _, _, _, _, _, _, _, _, h => by simp [altLoop] at h
 | f + 1, kids, a, l, kids', b, l', hI, ha, hl, hk, h => by
  rw [altLoop] at h
  split at h
  ·rename_i hc
   have g := pieceF_grow (d := d) hrec (l := l) hc.1
   split at h
   ·cases h
   ·rename_i k b1 l1 e
    rw [e] at g
    have g : Grow s a l 2 k b1 l1 := g
    obtain ⟨i1, i2⟩ := hp a l k b1 l1 hI hc hl e
    have hl1 : NOk l1 := hl.ext (s := s) (a := a) (b := b1) (x := 2) g.pre (fun i h1 h2 => (g.ok i h1 h2).1)
    obtain ⟨m, hm⟩ := g.pre
    have hlen : l.length ≤ l1.length := by have := g.more; omega
    obtain ⟨j1, j2, j3, j4, j5, j6⟩ := altLoop_w hrec hp i1 g.hi hl1 (fun q hq => by
     rcases List.mem_append.1 hq with hq | hq
     ·have := hk q hq; omega
     ·simp at hq; subst hq; have := g.root; have := g.more; omega) h
    refine ⟨j1, j2, by have := g.lo; omega, j4, j5, ?_⟩
    rw [sumW_snoc] at j6
    have e1 : sumW (wts l1) kids = sumW (wts l) kids := by rw [hm]; exact sumW_app hk
    have e2 := capW_le (sumW (wts l1) kids + (wts l1).getD k.toNat 0)
    have e3 : (wts l1).getD k.toNat 0 ≤ c * ((b1 : Int) - a) := i2
    have e4 : c * ((b : Int) - a) = c * ((b : Int) - b1) + c * ((b1 : Int) - a) := by rw [← Int.mul_add]; congr 1; omega
    omega
  ·rename_i hc
   cases h
   exact ⟨hI, hc, Nat.le_refl _, hl, hk, by simp⟩
theorem altF_w (hrec : ∀ d a l, a ≤ s.length → GrowR s a l 0 (rec d a l)) (hp : LightP rec s d I c) (hc : 0 ≤ c) {a : Nat} {l : List Node} {k : Int} {b : Nat} {l' : List Node} (hI : I a) (ha : a ≤ s.length) (hl : NOk l) (h : altF rec s d a l = .ok (k, (b, l'))) :
  I b ∧ ¬ LoopC s d b ∧ a ≤ b ∧ wtl l' k ≤ c * ((b : Int) - a) + 1 := by
 unfold altF at h
 split at h
 ·cases h
 rename_i kids b1 l1 e
 obtain ⟨j1, j2, j3, j4, j5, j6⟩ := altLoop_w hrec hp hI ha hl (fun q hq => by simp at hq) e
 have e0 : sumW (wts l) [] = 0 := rfl
 rw [e0] at j6
 have h0 : 0 ≤ c * ((b1 : Int) - a) := Int.mul_nonneg hc (by omega)
 split at h
 ·cases h
  refine ⟨j1, j2, j3, ?_⟩
  rw [wtl_last]
  have : wtNode (leafNode 0) (wts l1) = 1 := wt_one (by decide) _ _
  omega
 split at h
 ·rename_i h1
  cases h
  obtain ⟨q, rfl⟩ := List.length_eq_one_iff.1 h1
  refine ⟨j1, j2, j3, ?_⟩
  rw [sumW_one j4] at j6
  simp only [List.getD_cons_zero]
  omega
 ·cases h
  refine ⟨j1, j2, j3, ?_⟩
  rw [wtl_last]
  have : wtNode (kidsNode 4 kids) (wts l1) = sumW (wts l1) kids := by unfold wtNode kidsNode; dsimp only; rw [if_pos rfl]
  omega
theorem patLoop_w (hrec : ∀ d a l, a ≤ s.length → GrowR s a l 0 (rec d a l)) (hp : LightP rec s d I c) (hc : 2 ≤ c) (hbar : ∀ a, I a → isc s a 124 = true → I (a + 1)) {a0 : Nat} : ∀ {f : Nat} {kids : List Int} {a : Nat} {l : List Node} {kids' : List Int} {b : Nat} {l' : List Node}, I a → ¬ LoopC s d a → a0 ≤ a → a ≤ s.length → NOk l → (∀ k ∈ kids, 0 ≤ k ∧ k < (l.length : Int)) →
  sumW (wts l) kids + kids.length - 1 ≤ c * ((a : Int) - a0) + 1 → patLoop rec s d f kids a l = .ok (kids', (b, l')) →
  I b ∧ ¬ LoopC s d b ∧ isc s b 124 = false ∧ a0 ≤ b ∧ NOk l' ∧ (∀ k ∈ kids', 0 ≤ k ∧ k < (l'.length : Int)) ∧ sumW (wts l') kids' + kids'.length - 1 ≤ c * ((b : Int) - a0) + 1
 | 0, _, _, _, _, _, _, _, _, _, _, _, _, _, h => by simp [patLoop] at h
 | f + 1, kids, a, l, kids', b, l', hI, hn, h0, ha, hl, hk, hw, h => by
  rw [patLoop] at h
  split at h
  ·rename_i hb
   have hlt := (isc_true.1 hb).1
   have g := altF_grow (d := d) hrec (a := a + 1) (l := l) hlt
   split at h
   ·cases h
   ·rename_i k b1 l1 e
    rw [e] at g
    have g : Grow s (a + 1) l 0 k b1 l1 := g
    obtain ⟨i1, i2, i3, i4⟩ := altF_w hrec hp (by omega) (hbar a hI hb) hlt hl e
    have hl1 : NOk l1 := hl.ext (s := s) (a := a) (b := b1) (x := 2) g.pre (fun i h1 h2 => (g.ok i h1 h2).1)
    obtain ⟨m, hm⟩ := g.pre
    have hlen : l.length ≤ l1.length := by have := g.more; omega
    refine patLoop_w hrec hp hc hbar i1 i2 (by omega) g.hi hl1 (fun q hq => ?_) ?_ h
    ·rcases List.mem_append.1 hq with hq | hq
     ·have := hk q hq; omega
     ·simp at hq; subst hq; have := g.root; have := g.more; omega
    ·rw [sumW_snoc]
     have e1 : sumW (wts l1) kids = sumW (wts l) kids := by rw [hm]; exact sumW_app hk
     have e2 := capW_le (sumW (wts l1) kids + (wts l1).getD k.toNat 0)
     have e3 : (wts l1).getD k.toNat 0 ≤ c * ((b1 : Int) - ((a + 1 : Nat) : Int)) + 1 := i4
     have e4 : c * ((b1 : Int) - a0) = c * ((b1 : Int) - ((a + 1 : Nat) : Int)) + c * ((a : Int) - a0) + c := by
      rw [← Int.mul_add]
      have : c = c * 1 := by simp
      conv => rhs; rhs; rw [this]
      rw [← Int.mul_add]; congr 1; omega
     rw [List.length_append]
     simp only [List.length_cons, List.length_nil]
     omega
  ·rename_i hb
   cases h
   exact ⟨hI, hn, by cases hh : isc s a 124 with
    | true => exact absurd hh hb
    | false => rfl, h0, hl, hk, hw⟩
theorem patS_w (hrec : ∀ d a l, a ≤ s.length → GrowR s a l 0 (rec d a l)) (hp : LightP rec s d I c) (hc : 2 ≤ c) (hbar : ∀ a, I a → isc s a 124 = true → I (a + 1)) {a : Nat} {l : List Node} {k : Int} {b : Nat} {l' : List Node} (hI : I a) (ha : a ≤ s.length) (hl : NOk l) (h : patS rec s d a l = .ok (k, (b, l'))) :
  I b ∧ ¬ LoopC s d b ∧ isc s b 124 = false ∧ a ≤ b ∧ wtl l' k ≤ c * ((b : Int) - a) + 1 := by
 unfold patS at h
 have g := altF_grow (d := d) hrec (l := l) ha
 split at h
 ·cases h
 rename_i k1 b1 l1 e
 rw [e] at g
 have g : Grow s a l 0 k1 b1 l1 := g
 obtain ⟨i1, i2, i3, i4⟩ := altF_w hrec hp (by omega) hI ha hl e
 have hl1 : NOk l1 := hl.ext (s := s) (a := a) (b := b1) (x := 2) g.pre (fun i h1 h2 => (g.ok i h1 h2).1)
 split at h
 ·cases h
 rename_i kids b2 l2 e2
 have hr := g.root; have hm := g.more
 obtain ⟨j1, j2, j3, j4, j5, j6, j7⟩ := patLoop_w hrec hp hc hbar i1 i2 g.lo g.hi hl1 (fun q hq => by simp at hq; subst hq; omega) (by rw [sumW_one hl1]; simp only [List.length_cons, List.length_nil]; omega) e2
 split at h
 ·rename_i h1
  cases h
  obtain ⟨q, rfl⟩ := List.length_eq_one_iff.1 h1
  refine ⟨j1, j2, j3, j4, ?_⟩
  rw [sumW_one j5] at j7
  simp only [List.length_cons, List.length_nil] at j7
  simp only [List.getD_cons_zero]
  omega
 ·cases h
  refine ⟨j1, j2, j3, j4, ?_⟩
  rw [wtl_last]
  have : wtNode (kidsNode 5 kids) (wts l2) = capW (sumW (wts l2) kids + kids.length - 1) := by unfold wtNode kidsNode; dsimp only; rw [if_neg (by decide), if_pos rfl]
  have := capW_le (sumW (wts l2) kids + kids.length - 1)
  omega
end
structure Mild (s : Bs) : Prop where
 dig : ∀ p, p < s.length → 48 ≤ byt s p → byt s p ≤ 57 → byt s p ≤ 50 ∧ p + 1 < s.length ∧ ¬ (48 ≤ byt s (p + 1) ∧ byt s (p + 1) ≤ 57)
 grp : ∀ p, p < s.length → byt s p = 40 → ∃ q, q < p + 5 ∧ (p < q ∧ q < s.length ∧ byt s q = 41 ∧ ∀ i, i < q → p < i → (byt s i = 97 ∨ byt s i = 98 ∨ byt s i = 124))
theorem Mild.num {s : Bs} (h : Mild s) {a : Nat} {v : Int} {e : Nat} (hn : numF s a = some (v, e)) : v ≤ 2 := by
 unfold numF at hn
 split at hn
 ·rw [numN] at hn
  split at hn
  ·rename_i hd
   simp only [isD, Bool.and_eq_true, decide_eq_true_eq] at hd
   obtain ⟨h1, h2, h3⟩ := h.dig a hd.1 hd.2.1 hd.2.2
   rw [if_neg (by omega)] at hn
   split at hn
   ·cases hn
   obtain ⟨f, hf⟩ : ∃ f, s.length = f + 1 := ⟨s.length - 1, by omega⟩
   rw [hf, numN] at hn
   rw [if_neg, if_neg (by omega)] at hn
   ·simp only [Option.some.injEq, Prod.mk.injEq] at hn
    omega
   ·simp only [isD, Bool.and_eq_true, decide_eq_true_eq]
    rintro ⟨_, h4, h5⟩
    exact h3 ⟨h4, h5⟩
  ·rw [if_pos rfl] at hn; cases hn
 ·cases hn
theorem Mild.bounds {s : Bs} (h : Mild s) {a : Nat} {lo hi : Int} {e : Nat} (hb : boundsF s a = some (lo, (hi, e))) : lo ≤ 2 ∧ hi ≤ 2 := by
 unfold boundsF at hb
 split at hb
 ·cases hb
 rename_i lo' nx h1
 have k1 := h.num h1
 split at hb
 ·cases hb
 rename_i hi' e' h2
 split at hb
 ·cases hb
  refine ⟨k1, ?_⟩
  split at h2
  ·split at h2
   ·exact h.num h2
   ·cases h2; decide
  ·cases h2; exact k1
 ·cases hb
theorem Mild.quant {s : Bs} (h : Mild s) {b : Nat} {lo hi : Int} {e : Nat} (hq : quantF s b = some (some (lo, (hi, e)))) : lo ≤ 2 ∧ hi ≤ 2 := by
 unfold quantF at hq
 split at hq
 ·cases hq; decide
 split at hq
 ·cases hq; decide
 split at hq
 ·cases hq; decide
 split at hq
 ·simp only [Option.some.injEq] at hq; exact h.bounds hq
 ·cases hq
theorem rep_le {W B lo hi : Int} (hW : W ≤ B) (hB : 0 ≤ B) (h0 : 0 ≤ lo) (h2 : lo ≤ 2) (hh : hi = -1 ∨ lo ≤ hi) (hh2 : hi ≤ 2) : (if hi < 0 then capW (lo * W + W + 1) else capW (lo * W + (hi - lo) * (W + 1))) ≤ 3 * B + 2 := by
 have c1 := capW_le (lo * W + W + 1)
 have c2 := capW_le (lo * W + (hi - lo) * (W + 1))
 have hl : lo = 0 ∨ lo = 1 ∨ lo = 2 := by omega
 split
 ·rcases hl with rfl | rfl | rfl <;> omega
 ·have hd : hi - lo = 0 ∨ hi - lo = 1 ∨ hi - lo = 2 := by omega
  rcases hl with rfl | rfl | rfl <;> rcases hd with e | e | e <;> rw [e] at c2 ⊢ <;> omega
theorem group_w {s : Bs} {n : Nat} {d : Int} (hd : d > 0) {p q : Nat} (hq : q < s.length) (hq41 : byt s q = 41) (hin : ∀ i, i < q → p < i → (byt s i = 97 ∨ byt s i = 98 ∨ byt s i = 124)) (hpq : p < q) {l : List Node} (hl : NOk l) {k : Int} {b : Nat} {l' : List Node} (h : patN s n d (p + 1) l = .ok (k, (b, l'))) : wtl l' k ≤ 2 * ((b : Int) - (p + 1 : Nat)) + 1 := by
 cases n with
 | zero => cases h
 | succ n =>
  have hrec := fun d a l h => patN_grow s n d a l h
  have h : patS (patN s n) s d (p + 1) l = .ok (k, (b, l')) := h
  refine (patS_w (I := fun a => p < a ∧ a ≤ q) (c := 2) hrec ?_ (by decide) ?_ (by omega) (by omega) hl h).2.2.2.2
  ·rintro a l k b l' ⟨a0, a1⟩ ⟨c1, c2, c3⟩ hl hp
   have haq : a < q := by
    rcases Nat.lt_or_ge a q with h | h
    ·exact h
    ·have : a = q := by omega
     subst this
     exact absurd ⟨hq41, hd⟩ c3
   have hb := hin a haq a0
   have hnx : byt s (a + 1) = 97 ∨ byt s (a + 1) = 98 ∨ byt s (a + 1) = 124 ∨ byt s (a + 1) = 41 := by
    rcases Nat.lt_or_ge (a + 1) q with h | h
    ·have := hin (a + 1) h (by omega); omega
    ·have : a + 1 = q := by omega
     rw [this]; omega
   unfold pieceF at hp
   have hat : atomF (patN s n) s d a l = .ok ((l.length : Int), (a + 1, l ++ [setNode (putF z4 (byt s a))])) := by
    unfold atomF
    dsimp only
    rw [if_neg (by omega), if_neg (by omega), if_neg (by omega), if_neg (by omega), if_neg (by omega), if_neg (by omega), if_neg (by omega)]
   rw [hat] at hp
   dsimp only at hp
   rw [if_neg (by omega)] at hp
   have hqn : quantF s (a + 1) = none := by
    unfold quantF
    rw [if_neg (by omega), if_neg (by omega), if_neg (by omega), if_neg (by omega)]
   rw [hqn] at hp
   cases hp
   refine ⟨⟨by omega, by omega⟩, ?_⟩
   rw [wtl_last]
   have : wtNode (setNode (putF z4 (byt s a))) (wts l) = 1 := wt_one (by decide) _ _
   omega
  ·rintro a ⟨a0, a1⟩ hb
   have := (isc_true.1 hb).2
   refine ⟨by omega, ?_⟩
   rcases Nat.lt_or_ge a q with h | h
   ·omega
   ·have : a = q := by omega
    subst this
    omega
theorem parse_ok {s : Bs} {l : List Node} (h : parseF s = (l, 0)) : NValid l ∧ KB l ∧ s.length ≤ 256 := by
 unfold parseF at h
 split at h
 ·cases h
 rename_i hs
 have hg := patN_grow s 51 0 0 [] (Nat.zero_le _)
 split at h
 ·rename_i e he
  rw [he] at hg
  cases h
  exact absurd rfl hg
 rename_i k b l1 he
 rw [he] at hg
 have hg : Grow s 0 [] 0 k b l1 := hg
 split at h
 ·cases h
 cases h
 have hlen := hg.len; have hmore := hg.more; have hhi := hg.hi
 simp only [List.length_nil] at hlen hmore
 refine ⟨⟨by omega, by omega, fun i hi => (hg.ok i (Nat.zero_le _) hi).1⟩, fun i => ?_, by omega⟩
 rcases Nat.lt_or_ge i l.length with h1 | h1
 ·have := (hg.ok i (Nat.zero_le _) h1).2
  omega
 ·have : l.getD i zNode = zNode := by simp [List.getD_eq_getElem?_getD, List.getElem?_eq_none h1]
  rw [this]
  simp [zNode]
theorem parse_w {s : Bs} (hm : Mild s) {l : List Node} (h : parseF s = (l, 0)) : NValid l ∧ (wts l).getD (l.length - 1) 0 ≤ 4000 ∧ s.length ≤ 256 := by
 unfold parseF at h
 split at h
 ·cases h
 rename_i hs
 have hg := patN_grow s 51 0 0 [] (Nat.zero_le _)
 split at h
 ·rename_i e he
  rw [he] at hg
  cases h
  exact absurd rfl hg
 rename_i k b l1 he
 rw [he] at hg
 have hg : Grow s 0 [] 0 k b l1 := hg
 split at h
 ·cases h
 cases h
 have w0 : NOk [] := fun i hi => by simp at hi
 have wl : NOk l := w0.ext (s := s) (a := 0) (b := b) (x := 0) hg.pre (fun i h1 h2 => (hg.ok i h1 h2).1)
 have hlen := hg.len; have hmore := hg.more; have hhi := hg.hi; have hroot := hg.root
 simp only [List.length_nil] at hlen hmore
 refine ⟨⟨by omega, by omega, wl⟩, ?_, by omega⟩
 have hrec := fun d a l h => patN_grow s 50 d a l h
 have he : patS (patN s 50) s 0 0 [] = .ok (k, (b, l)) := he
 have hw := (patS_w (I := fun a => True) (c := 6) hrec ?_ (by decide) (fun _ _ _ => trivial) trivial (Nat.zero_le _) w0 he).2.2.2.2
 ·unfold wtl at hw
  have : k.toNat = l.length - 1 := by omega
  rw [this] at hw
  omega
 rintro a l k b l' - ⟨c1, c2, c3⟩ hl hp
 refine ⟨trivial, ?_⟩
 have ha : ∀ k b l', atomF (patN s 50) s 0 a l = .ok (k, (b, l')) → wtl l' k ≤ 2 * ((b : Int) - a) - 1 ∧ a < b := by
  intro k b l' h
  unfold atomF at h
  dsimp only at h
  have one : ∀ (w : Set4) (kd : Int) (e : Nat), kd ≤ 3 → a < e → wtl (l ++ [(kd, (w, ((0 : Int), ((0 : Int), []))))]) (l.length : Int) ≤ 2 * ((e : Int) - a) - 1 ∧ a < e := fun w kd e hk he => by
   rw [wtl_last, wt_one hk]
   omega
  split at h
  ·rename_i h40
   split at h
   ·cases h
   have hg := hrec (0 + 1) (a + 1) l (by omega)
   split at h
   ·cases h
   rename_i k1 b1 l1 e
   rw [e] at hg
   have hg : Grow s (a + 1) l 0 k1 b1 l1 := hg
   split at h
   ·cases h
    obtain ⟨q, _, q1, q2, q3, q4⟩ := hm.grp a c1 h40
    have := group_w (d := 0 + 1) (by decide) q2 q3 q4 q1 hl e
    have := hg.lo
    omega
   ·cases h
  split at h
  ·split at h
   ·cases h
   ·rename_i w b1 e
    cases h
    have := classF_le e (by omega)
    exact one _ _ _ (by decide) (by omega)
  split at h
  ·cases h; exact one _ _ _ (by decide) (by omega)
  split at h
  ·cases h; exact one _ _ _ (by decide) (by omega)
  split at h
  ·cases h; exact one _ _ _ (by decide) (by omega)
  split at h
  ·cases h
  split at h
  ·split at h
   ·cases h
   ·cases h; exact one _ _ _ (by decide) (by omega)
  ·cases h; exact one _ _ _ (by decide) (by omega)
 unfold pieceF at hp
 split at hp
 ·cases hp
 rename_i k1 b1 l1 e
 have h1 := ha k1 b1 l1 e
 split at hp
 ·cases hp; omega
 rename_i hb1
 split at hp
 ·cases hp; omega
 ·cases hp
 ·rename_i lo hi e' hq
  have q1 := quantF_le hq (by omega)
  have q2 := hm.quant hq
  split at hp
  ·cases hp
  ·cases hp
   have hg1 := atomF_grow (d := 0) hrec (l := l) c1
   rw [e] at hg1
   have hg1 : Grow s a l 2 k1 b1 l1 := hg1
   have wl1 : NOk l1 := hl.ext (s := s) (a := a) (b := b1) (x := 0) hg1.pre (fun i h1 h2 => (hg1.ok i h1 h2).1)
   rw [wtl_last]
   have : wtNode (repNode lo hi k1) (wts l1) = if hi < 0 then capW (lo * wtl l1 k1 + wtl l1 k1 + 1) else capW (lo * wtl l1 k1 + (hi - lo) * (wtl l1 k1 + 1)) := by
    unfold wtNode repNode
    dsimp only
    rw [if_neg (by decide), if_neg (by decide), if_pos rfl, sumW_one wl1]
   rw [this]
   have := rep_le (W := wtl l1 k1) (B := 2 * ((b1 : Int) - a) - 1) h1.1 (by omega) q1.2.2.1 q2.1 (by omega) q2.2
   omega
end Go.VS
