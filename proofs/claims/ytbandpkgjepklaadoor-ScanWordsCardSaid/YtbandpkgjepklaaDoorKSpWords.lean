/- Words joined by spaces are read back. -/
import Derived.Test.YtbandpkgjepklaaDoorKSpQr
set_option linter.unusedVariables false
set_option linter.unusedSimpArgs false
namespace Go.VS
variable {P : Program}
def Sp_Strings (P : Program) : Prop := ∀ x : List Bs × List Bs, x.1.length ≤ 9223372036854775806 → x.1 = x.2 → Fn P "mergelens/mergelensgen.Strings" S_gen_Strings x fun (d : Bool) _ => d = true
theorem sp_Strings (h : Has P F_gen_Strings) : Sp_Strings P := by
 rintro ⟨l, m⟩ hl he
 dsimp only at hl he
 subst he
 refine fn_gen_Strings h ?_
 unfold W_gen_Strings
 dsimp only
 refine ⟨fun hc => absurd hc (by simp), fun _ => JoinW.mid (fun _ => True) ?_ fun _ _ => rfl⟩
 refine LoopW.of (fun d => 0 ≤ d.2 ∧ d.2 ≤ l.length) (fun d => (l.length - d.2).toNat) ⟨by omega, by simp⟩ ?_
 rintro ⟨b, i⟩ ⟨i0, i1⟩
 dsimp only at i0 i1 ⊢
 refine ⟨fun hc => ?_, fun _ => trivial⟩
 have hi := of_decide_eq_true hc
 have hin : i.toNat < l.length := by omega
 refine JoinW.mid (fun _ => True) ⟨⟨i0, hi⟩, hin, ⟨i0, hi⟩, hin, fun h2 => absurd h2 (by simp), fun _ => trivial⟩ ?_
 intro d _
 rw [w64 (by omega) (by omega)]
 exact ⟨⟨by omega, by omega⟩, by omega⟩
def jq : List Bs → Bs
 | [] => []
 | [a] => quoteF a
 | a :: b :: l => quoteF a ++ 32 :: jq (b :: l)
theorem jq_one (a : Bs) : jq [a] = quoteF a := rfl
theorem jq_two (a b : Bs) (l : List Bs) : jq (a :: b :: l) = quoteF a ++ 32 :: jq (b :: l) := rfl
theorem jq_snoc : ∀ (l : List Bs) (a : Bs), l ≠ [] → jq (l ++ [a]) = jq l ++ [32] ++ quoteF a
 | [], _, h => absurd rfl h
 | [b], a, _ => by
  show jq [b, a] = _
  rw [jq_two, jq_one, jq_one]
  simp
 | b :: c :: l, a, _ => by
  have := jq_snoc (c :: l) a (by simp)
  show jq (b :: c :: (l ++ [a])) = _
  rw [jq_two, jq_two]
  have e : c :: (l ++ [a]) = (c :: l) ++ [a] := rfl
  rw [e, this]
  simp
theorem quote_pos (s : Bs) : 0 < (quoteF s).length := by
 unfold quoteF
 split
 ·rename_i h
  cases s with
  | nil => cases h
  | cons => simp
 ·simp
theorem wd_run : ∀ (l : List Bs) (a p : Bs) (f : Nat) (out : List Bs), l.length < f → wdN (p ++ jq (a :: l)) f out ((p.length : Nat) : Int) = (out ++ a :: l, true)
 | [], a, p, f + 1, out, _ => by
  have hu := unq_back p a [] (.inl rfl)
  rw [List.append_nil] at hu
  rw [wdN, jq_one, hu, if_neg (by simp), if_pos (by simp)]
 | b :: l, a, p, f + 1, out, h => by
  have hu := unq_back p a (32 :: jq (b :: l)) (.inr (by rw [byt_cons]; rfl))
  rw [wdN, jq_two, hu, if_neg (by simp)]
  dsimp only
  have hlen : (p ++ (quoteF a ++ 32 :: jq (b :: l))).length = p.length + (quoteF a).length + 1 + (jq (b :: l)).length := by
   simp only [List.length_append, List.length_cons]
   omega
  have hby : byt (p ++ (quoteF a ++ 32 :: jq (b :: l))) (p.length + (quoteF a).length) = 32 := by
   rw [byt_app, show (quoteF a).length = (quoteF a).length + 0 from rfl, byt_app, byt_cons]
   rfl
  rw [if_neg (by omega), show ((p.length + (quoteF a).length : Nat) : Int).toNat = p.length + (quoteF a).length by omega, hby, if_neg (by simp)]
  have e : p ++ (quoteF a ++ 32 :: jq (b :: l)) = (p ++ quoteF a ++ [32]) ++ jq (b :: l) := by simp
  have e2 : ((p.length + (quoteF a).length : Nat) : Int) + 1 = (((p ++ quoteF a ++ [32]).length : Nat) : Int) := by
   simp
   omega
  rw [e, e2, wd_run l b _ f _ (by simp at h; omega)]
  simp
 | _, _, _, 0, _, h => absurd h (by omega)
theorem jq_len : ∀ (l : List Bs), l.length ≤ (jq l).length
 | [] => by simp
 | [a] => by
  have := quote_pos a
  rw [jq_one]
  simp
  omega
 | a :: b :: l => by
  have := jq_len (b :: l)
  have := quote_pos a
  rw [jq_two]
  simp only [List.length_append, List.length_cons] at this ⊢
  simp only [List.length_cons] at *
  omega
theorem words_back (l : List Bs) : wordsF (jq l) = (l, true) := by
 unfold wordsF
 cases l with
 | nil => rfl
 | cons a l =>
  have hn := jq_len (a :: l)
  have hne : jq (a :: l) ≠ [] := fun h => by
   rw [h] at hn
   simp at hn
  rw [if_neg hne]
  have := wd_run l a [] ((jq (a :: l)).length + 1) [] (by simp at hn; omega)
  simpa using this
theorem wdN_len (s : Bs) : ∀ (f : Nat) (out : List Bs) (i : Int), (wdN s f out i).1.length ≤ out.length + f
 | 0, _, _ => by simp [wdN]
 | f + 1, out, i => by
  rw [wdN]
  split
  ·simp
  split
  ·simp
  split
  ·simp
  ·have := wdN_len s f (out ++ [(unqF (s, i)).1]) ((unqF (s, i)).2.1 + 1)
   simp only [List.length_append, List.length_cons, List.length_nil] at this
   omega
theorem words_len (s : Bs) : (wordsF s).1.length ≤ s.length + 1 := by
 unfold wordsF
 split
 ·simp
 ·have := wdN_len s (s.length + 1) [] 0
  simpa using this
theorem sp_ScanWords (h : Has P F_law01_ScanWords) (hA : Sp_awake01 P) (hW : Sp_Words P) (hRW : Sp_RWords P) (hRQ : Sp_RQuote P) (hS : Sp_Strings P) (x : Bs × List Bs) : Fn P "mergelens/mergelenslaw01.ScanWords" S_law01_ScanWords x fun (d : Bool) _ => d = true := by
 obtain ⟨s, l⟩ := x
 refine fn_law01_ScanWords h ?_
 unfold W_law01_ScanWords
 dsimp only
 refine ⟨fun _ => hA.at rfl, fun hc => ?_⟩
 have hl : s.length ≤ 60 ∧ l.length ≤ 5 := by have := corf.1 hc; omega
 refine JoinW.mid (fun d => d.2 = jq l ∧ d.2.length ≤ 700) ?_ ?_
 ·refine LoopW.of (fun d => 0 ≤ d.2.2 ∧ d.2.2 ≤ l.length ∧ d.2.1 = jq (l.take d.2.2.toNat) ∧ (d.2.1.length : Int) ≤ 130 * d.2.2) (fun d => (l.length - d.2.2).toNat) ⟨by dsimp only; omega, by simp, rfl, by simp⟩ ?_
  rintro ⟨b, t, i⟩ ⟨i0, i1, ht, htl⟩
  dsimp only at i0 i1 ht htl ⊢
  refine ⟨fun hc => ?_, fun hc => ?_⟩
  ·have hi := of_decide_eq_true hc
   have hin : i.toNat < l.length := by omega
   refine JoinW.mid (fun d => d.2 = jq (l.take (i.toNat + 1)) ∧ (d.2.length : Int) ≤ 130 * (i + 1)) ?_ ?_
   ·refine ⟨⟨i0, hi⟩, hin, fun _ => hA.at rfl, fun h2 => ?_⟩
    have h2 := of_decide_eq_false h2
    have hql := quote_len (l.getD i.toNat [])
    refine JoinW.mid (fun w => w ++ quoteF (l.getD i.toNat []) = jq (l.take (i.toNat + 1)) ∧ (w.length : Int) ≤ 130 * i + 1) ⟨fun h3 => ⟨by simp only [List.length_cons, List.length_nil]; omega, ?_⟩, fun h3 => ?_⟩ ?_
    ·have h3 := of_decide_eq_true h3
     refine ⟨?_, by simp only [List.length_append, List.length_cons, List.length_nil]; omega⟩
     rw [List.take_add_one, List.getElem?_eq_getElem hin, Option.toList, jq_snoc _ _ (fun he => by
      have := congrArg List.length he
      rw [List.length_take, List.length_nil] at this
      omega), ← ht, getD_eq hin]
    ·have h3 := of_decide_eq_false h3
     have hi0 : i = 0 := by omega
     subst hi0
     refine ⟨?_, by omega⟩
     rw [ht]
     show jq (l.take 0) ++ _ = jq (l.take (0 + 1))
     have hin0 : 0 < l.length := hin
     rw [List.take_zero, List.take_add_one, List.take_zero, List.getElem?_eq_getElem hin0, show Int.toNat 0 = 0 from rfl, getD_eq hin0]
     rfl
    ·rintro w ⟨hw, hwl⟩
     refine ⟨⟨i0, hi⟩, hin, ?_⟩
     refine (hRQ (l.getD i.toNat []) (by omega)).to ?_
     rintro (q : Bs) _ hq
     have hq : q = quoteF (l.getD i.toNat []) := hq
     subst hq
     exact ⟨by omega, hw, by rw [List.length_append]; omega⟩
   ·rintro ⟨b2, t2⟩ ⟨h3, h4⟩
    dsimp only at h3 h4 ⊢
    rw [w64 (by omega) (by omega)]
    refine ⟨⟨by omega, by omega, ?_, h4⟩, by omega⟩
    rw [h3, show (i + 1).toNat = i.toNat + 1 by omega]
  ·have hi := of_decide_eq_false hc
   rw [show i.toNat = l.length by omega, List.take_length] at ht
   exact ⟨ht, by omega⟩
 ·rintro ⟨b, t⟩ ⟨ht, htl⟩
  dsimp only at ht htl ⊢
  refine (hW s (by omega)).to ?_
  rintro (a : List Bs × Bool) _ ha
  refine (hRW s (by omega)).to ?_
  rintro (a2 : List Bs × Bool) _ ha2
  have ha2 : a2 = a := ha2.trans ha.symm
  subst ha2
  refine (hW t (by omega)).to ?_
  rintro (c : List Bs × Bool) _ hc2
  have hc2 : c = (l, true) := by
   rw [hc2, ht]
   exact words_back l
  subst hc2
  have hal : a2.1.length ≤ 9223372036854775806 := by
   have := words_len s
   rw [show a2 = wordsF s from ha]
   omega
  refine (hS (a2.1, a2.1) hal rfl).to ?_
  rintro (e1 : Bool) _ he1
  have he1 : e1 = true := he1
  subst he1
  simp only [beq_self_eq_true, cond_true]
  refine JoinW.mid (fun d => d = true) ⟨fun _ => (hS (l, l) (by dsimp only; omega) rfl).to fun (d : Bool) _ hd => hd, fun hc => absurd hc (by decide), trivial⟩ ?_
  rintro d rfl
  exact JoinW.of ⟨fun _ => hA.at rfl, fun hc => absurd hc (by decide), trivial⟩
end Go.VS
