/- tree.Apply: what it gives where all is well; as a contract. -/
import Derived.Test.YtdnomijflodcgaaGreatDoorKKHA
import Derived.Test.YtdnomijflodcgaaGreatDoorKKZ
import Derived.Test.YtdnomijflodcgaaGreatDoorKSm3
set_option linter.unusedVariables false
set_option linter.unusedSimpArgs false
namespace Go.Proofs.Tryz
open Go.Shelf Go.RowKit Go.VS Go Go.Maps Go.Sort
def Amw (x : Bh) : List Value := [.string ⟨x.1.toArray⟩, .string ⟨x.2.toArray⟩]
def AlC (w : World) (B : Nat) (v : Value) (l : List Bh) : Prop := w.ownsRow B 65 2 v l.length (l.map Amw).flatten
theorem Ama (o : List Bh) (x : Bh) : (o.map Amw).flatten ++ [.string ⟨x.1.toArray⟩, .string ⟨x.2.toArray⟩] = ((o ++ [x]).map Amw).flatten := by
 rw [List.map_append, List.flatten_append]
 rfl
theorem AlE {w w' : World} {B : Nat} {v : Value} {l : List Bh} (h : AlC w B v l) (hb : Below w.heap.size w w') : AlC w' B v l := by
 refine ⟨h.1, ?_⟩
 rcases h.2 with h | ⟨g, cap, cur, h1, h2, h3, h4⟩
 ·exact .inl h
 ·have hlt : g < w.heap.size := (Array.getElem?_eq_some_iff.1 h3).1
  exact .inr ⟨g, cap, cur, h1, h2, (hb.block g hlt).trans h3, h4⟩
theorem Ami {w : World} {B B' : Nat} {v : Value} {l : List Bh} (h : AlC w B v l) (hb : B' ≤ B) : AlC w B' v l := by
 refine ⟨h.1, ?_⟩
 rcases h.2 with h | ⟨g, cap, cur, h1, h2, h3, h4⟩
 ·exact .inl h
 ·exact .inr ⟨g, cap, cur, h1, Nat.le_trans hb h2, h3, h4⟩
theorem AmB (B : Nat) {ops : Array Oper} {rest : List Oper} {o : Oper} {a : Act} {Q : Exit → Act → World → Prop} {s x : Operand} {w1 : World} {v : Value} {l : List Bh} {g : Nat} {p k : Bs}
  (hgd : o.guard = none) (ho : o.op = .call { callee := .builtin .append, args := #[s, x], argTypes := #[48, 48] }) (hs : a.eval s = v) (hown : AlC w1 B v l)
  (hx : a.eval x = .slice (some ⟨g, 0, none⟩) 1 1) (hc0 : w1.cell? ⟨g, 0, none⟩ = some (.string ⟨p.toArray⟩)) (hc1 : w1.cell? ⟨g, 1, none⟩ = some (.string ⟨k.toArray⟩)) (hn : l.length ≤ 100000000) (hB : B ≤ w1.heap.size)
  (hk : ∀ v' w', AlC w' B v' (l ++ [(p, k)]) → w1.grownBy w' v.ownBlock → wpList prog ops Q rest (a.put o.dst v') w') : wpList prog ops Q (o :: rest) a w1 := by
 obtain ⟨i0, hi, hz0, hz1, hz2⟩ := info_parts (P := prog) (e := 65) (z := .agg #[.string ⟨#[]⟩, .string ⟨#[]⟩]) (size := 2) (bytes := 32) (by kernel_rfl)
 refine wpList_append_own w1 hgd s x 48 ho B 65 i0 (.agg #[.string ⟨#[]⟩, .string ⟨#[]⟩]) 2 32 underlying48 hi hz0 hz1 hz2 rfl (by decide) v l.length _ hs hown ⟨g, 0, none⟩ 1 1 [.string ⟨p.toArray⟩, .string ⟨k.toArray⟩] hx rfl ?_ ?_ ?_ ?_ hB ?_
 ·intro j u hj
  match j, hj with
  | 0, hj =>
   have : Value.string ⟨p.toArray⟩ = u := by simpa using hj
   subst this
   exact hc0
  | 1, hj =>
   have : Value.string ⟨k.toArray⟩ = u := by simpa using hj
   subst this
   exact hc1
  | j + 2, hj => simp at hj
 ·intro u hu
  simp only [List.mem_cons, List.not_mem_nil, or_false] at hu
  rcases hu with rfl | rfl <;> rfl
 ·unfold maxLen; omega
 ·omega
 ·intro v' w' h1 h2 _
  rw [Ama l (p, k)] at h1
  exact hk v' w' (by unfold AlC; rw [List.length_append]; exact h1) h2
structure AM (a b : List Bh) (d : List Af3) (R1 R2 B9 B10 : Nat) (w : World) (k : Nat) (wr : World) : Prop where
 m1 : MG wr R1 (a.length + k) ((d.take k).foldl (Go.VS.stepG b) (D0 a))
 m2 : MG wr R2 b.length (D0 b)
 c9 : wr.cell? ⟨B9, 0, none⟩ = some (.map (some R1))
 c10 : wr.cell? ⟨B10, 0, none⟩ = some (.map (some R2))
 l9 : B9 < wr.heap.size
 l10 : B10 < wr.heap.size
 bel : Below w.heap.size w wr
theorem Alz {kt et : TypeId} {α : Type} {E : Elt prog et α} {w : World} {b n : Nat} {g : Bs → Option α} (hm : Ec prog kt E w b n g) {c : Nat} {u : Value} (hc : w.cell? ⟨c, 0, none⟩ = some u) : c ≠ b := by
 obtain ⟨D, ⟨es, clock, hb, _⟩, _⟩ := hm
 rintro rfl
 unfold World.cell? at hc
 rw [hb] at hc
 simp at hc
theorem AM.step {a b : List Bh} {d : List Af3} {R1 R2 B9 B10 : Nat} {w W w' : World} {k : Nat} {x : Af3} (hx : d[k]? = some x) (h : AM a b d R1 R2 B9 B10 w k W) (hR1 : w.heap.size ≤ R1) (hne : R1 ≠ R2) (hg : W.grownBy w' (some R1)) (hm : MG w' R1 (a.length + (k + 1)) (Go.VS.stepG b ((d.take k).foldl (Go.VS.stepG b) (D0 a)) x)) : AM a b d R1 R2 B9 B10 w (k + 1) w' where
 m1 := by
  rw [List.take_add_one, hx, List.foldl_append]
  exact hm
 m2 := h.m2.of_block (hg.block _ h.m2.lt (by intro e; exact hne (Option.some.inj e).symm))
 c9 := by
  have hne9 := Alz h.m1 h.c9
  rw [← h.c9]
  unfold World.cell?
  rw [hg.block B9 h.l9 (by intro e; exact hne9 (Option.some.inj e))]
 c10 := by
  have hne10 := Alz h.m1 h.c10
  rw [← h.c10]
  unfold World.cell?
  rw [hg.block B10 h.l10 (by intro e; exact hne10 (Option.some.inj e))]
 l9 := Nat.lt_of_lt_of_le h.l9 hg.size
 l10 := Nat.lt_of_lt_of_le h.l10 hg.size
 bel := P5 h.bel hg hR1 (Nat.le_refl _)
theorem AM.alloc {a b : List Bh} {d : List Af3} {R1 R2 B9 B10 : Nat} {w W : World} {k : Nat} (h : AM a b d R1 R2 B9 B10 w k W) (o : Obj) : AM a b d R1 R2 B9 B10 w k (W.alloc o) where
 m1 := Ec.alloc h.m1 o
 m2 := Ec.alloc h.m2 o
 c9 := by rw [← h.c9]; unfold World.cell?; rw [Below.heap_alloc W o B9 h.l9]
 c10 := by rw [← h.c10]; unfold World.cell?; rw [Below.heap_alloc W o B10 h.l10]
 l9 := by have := h.l9; simp; omega
 l10 := by have := h.l10; simp; omega
 bel := h.bel.alloc h.bel.size o
def AlB (g : Bs → Option Bs) (ts : List Bs) (k : Nat) : List Bh := (ts.take k).map fun p => (p, (g p).getD [])
theorem Amg {g : Bs → Option Bs} {ts : List Bs} {k : Nat} {p : Bs} (h : ts[k]? = some p) : AlB g ts (k + 1) = AlB g ts k ++ [(p, (g p).getD [])] := by
 unfold AlB
 rw [List.take_add_one, h, List.map_append]
 rfl
theorem Amh {g : Bs → Option Bs} {ts : List Bs} (h : AlK g ts) : Ali g (AlB g ts ts.length) := by
 unfold AlB
 rw [List.take_length]
 refine ⟨by rw [List.pairwise_map]; exact h.1, fun p v => ?_⟩
 rw [List.mem_map]
 constructor
 ·rintro ⟨q, hq, e⟩
  cases e
  obtain ⟨v, hv⟩ := Option.isSome_iff_exists.1 ((h.2 p).1 hq)
  rw [hv]; rfl
 ·intro hp
  exact ⟨p, (h.2 p).2 (by rw [hp]; rfl), by rw [hp]; rfl⟩
def Aml (a b : List Bh) (d : List Af3) (w : World) (e : Ending) (w' : World) : Prop := ∃ (o : List Bh) (v : Value), Ali (Alp a b d) o ∧ AlC w' w.heap.size v o ∧ e = .returned (.tuple #[if Fm o ≠ 0 then .slice none 0 0 else v, .int .i64 (Fm o)]) ∧ Below w.heap.size w w'
set_option maxHeartbeats 4000000 in
set_option maxRecDepth 1000000 in
theorem Amn (a b : List Bh) (d : List Af3) (pa pb pd : Option Addr) (ca cb cd : Nat) (w : World) (ha : Kw a) (hb : Kw b) (hca : Fm a = 0) (hcb : Fm b = 0) (hn : d.length ≤ 1000000) (hl : ∀ t ∈ d, t.1.length ≤ 140737488351232) (hva : Zm w pa a) (hvb : Zm w pb b) (hv : Ai6 w pd d) (hp : Ale d [] = true) (hps : d.all (Ald a b) = true)
  (hbo : Calls prog 66 #[.slice pa a.length ca, .slice pb b.length cb] w fun e w' => e = .returned (.int .i64 0) ∧ Below w.heap.size w w')
  (hck : ∀ (W : World) (v : Value) (o : List Bh), Below w.heap.size w W → Kw o → AlC W w.heap.size v o → Calls prog 73 #[v] W fun e w' => e = .returned (.int .i64 (Fm o)) ∧ Below W.heap.size W w') :
  Calls prog 28 #[.slice pa a.length ca, .slice pb b.length cb, .slice pd d.length cd] w (Aml a b d w) := by
 have hcon := fun W hW => Alq d hn hl pd cd W hW
 rw [hp] at hcon
 have hcf := fun R1 R2 n1 n2 B9 B10 W => AlO a b d hl hn pd cd R1 R2 n1 n2 B9 B10 W
 rw [hps] at hcf
 have hna := AjP hca
 have hnb := AjP hcb
 have hdp := ((Alx d []).1 hp).2
 have hlenO : ∀ o, Ali (Alp a b d) o → Kw o := fun o ho => AlX hca hcb ha hb hl hdp hps ho
 have hgl : ∀ p, (Alp a b d p).isSome = true → p.length ≤ maxLen := fun p h => by
  obtain ⟨v, hv⟩ := Option.isSome_iff_exists.1 h
  have := (AlL ha hb hl hv).1
  unfold maxLen; omega
 have hgv : ∀ p, ((Alp a b d p).getD []).length ≤ 140737488351232 := fun p => by
  cases h : Alp a b d p with
  | none => exact Nat.zero_le _
  | some v => exact (AlL ha hb hl h).2
 have hbv : ∀ p, ((D0 b p).getD []).length ≤ maxLen := fun p => by
  cases h : D0 b p with
  | none => exact Nat.zero_le _
  | some v =>
   have := (hb.2 _ (Als h)).2
   show v.length ≤ maxLen
   unfold maxLen
   dsimp only at this
   omega
 clear hp hps hdp
 go_enter func28, ntmps28
 have honce : True := trivial
 go_wp2_with (go_at_call 66; have hx := honce; clear hx honce; refine hbo.mono ?_; rintro e w1 ⟨rfl, hB1⟩)
 have honce : True := trivial
 go_wp2_with (go_at_call 67; have hx := honce; clear hx honce; refine (hcon w1 (hv.below hB1)).mono ?_; rintro e w2 ⟨rfl, hB2⟩)
 have hB02 := hB1.trans (hB2.mono hB1.size)
 have hva2 := hva.below hB02
 have honce : True := trivial
 go_wp2_with (go_at_call 68; have hx := honce; clear hx honce; refine (UZ a ha.1 ha.2 pa ca w2 hva2).mono ?_; rintro e w3 ⟨rfl, hMa, hB3⟩)
 have hB03 := hB02.trans (hB3.mono hB02.size)
 have hvb3 := hvb.below hB03
 have hlta := hMa.lt
 have honce : True := trivial
 go_wp2_with (go_at_call 68; have hx := honce; clear hx honce; refine (UZ b hb.1 hb.2 pb cb w3 hvb3).mono ?_; rintro e w4 ⟨rfl, hMb, hB4⟩)
 have hB04 := hB03.trans (hB4.mono hB03.size)
 have hMa4 := hMa.below hB4 hlta
 have hv4 := hv.below hB04
 have hR1 : w.heap.size ≤ w2.heap.size := hB02.size
 have hne : w2.heap.size ≠ w3.heap.size := by omega
 have hltb := hMb.lt
 clear hva2 hvb3 hB1 hB2 hB3 hB4 hB02 hB03 hMa hlta hbo hcon
 have hcon3 := hcf w2.heap.size w3.heap.size a.length b.length w4.heap.size (w4.heap.size + 1) ((w4.alloc (.cells #[.map (some w2.heap.size)] 95)).alloc (.cells #[.map (some w3.heap.size)] 95))
  (hv4.below (((Below.refl _ w4).alloc (Nat.le_refl _) _).alloc (by simp) _)) ((hMa4.alloc _).alloc _) ((hMb.alloc _).alloc _) (by simp) (by simp) (by simp; omega) (by simp)
 have hM8 : MG ((w4.alloc (.cells #[.map (some w2.heap.size)] 95)).alloc (.cells #[.map (some w3.heap.size)] 95)) w2.heap.size a.length (D0 a) := (hMa4.alloc _).alloc _
 have hN8 : MG ((w4.alloc (.cells #[.map (some w2.heap.size)] 95)).alloc (.cells #[.map (some w3.heap.size)] 95)) w3.heap.size b.length (D0 b) := (hMb.alloc _).alloc _
 have h9 : ((w4.alloc (.cells #[.map (some w2.heap.size)] 95)).alloc (.cells #[.map (some w3.heap.size)] 95)).cell? ⟨w4.heap.size, 0, none⟩ = some (.map (some w2.heap.size)) := by simp
 have h10 : ((w4.alloc (.cells #[.map (some w2.heap.size)] 95)).alloc (.cells #[.map (some w3.heap.size)] 95)).cell? ⟨w4.heap.size + 1, 0, none⟩ = some (.map (some w3.heap.size)) := by simp
 have hB8 : Below w.heap.size w ((w4.alloc (.cells #[.map (some w2.heap.size)] 95)).alloc (.cells #[.map (some w3.heap.size)] 95)) := (hB04.alloc hB04.size _).alloc (by have := hB04.size; simp; omega) _
 have hs8 : ((w4.alloc (.cells #[.map (some w2.heap.size)] 95)).alloc (.cells #[.map (some w3.heap.size)] 95)).heap.size = w4.heap.size + 2 := by simp
 clear hMa4 hMb hv4 hcf hltb
 generalize w2.heap.size = R1 at *
 generalize w3.heap.size = R2 at *
 go_wp2_with (go_at_call 48; refine hcon3.mono ?_; rintro e w5 ⟨rfl, hB5⟩)
 have hA : AM a b d R1 R2 w4.heap.size (w4.heap.size + 1) w 0 w5 := ⟨hM8.below hB5 hM8.lt, hN8.below hB5 hN8.lt, (hB5.cell (p := ⟨w4.heap.size, 0, none⟩) (by show w4.heap.size < _; rw [hs8]; omega)).trans h9, (hB5.cell (p := ⟨w4.heap.size + 1, 0, none⟩) (by show w4.heap.size + 1 < _; rw [hs8]; omega)).trans h10, by have := hB5.size; rw [hs8] at this; omega, by have := hB5.size; rw [hs8] at this; omega, hB8.trans (hB5.mono hB8.size)⟩
 clear hM8 hN8 h9 h10 hB8 hs8 hB5 hcon3 hB04
 generalize w4.heap.size = B9 at *
 go_wp2
 go_loopw [35] (fun i wr => ∃ k : Nat, k ≤ d.length ∧ i = .int .i64 k ∧ AM a b d R1 R2 B9 (B9 + 1) w k wr) (fun i _ => d.length - (Lib.intOf i).toNat)
 case atStart => exact ⟨0, Nat.zero_le _, rfl, hA⟩
 case round =>
  clear hA
  obtain ⟨k, hk, hi, hA⟩ := hrel
  subst hi
  by_cases hks : k < d.length
  ·obtain ⟨bl, off, rfl, hbl, q0, q1⟩ := hv.at_ k d[k] (List.getElem?_eq_getElem hks)
   have c0 := (hA.bel.cell (p := ⟨bl, off + k * 2, none⟩) hbl).trans q0
   have c1 := (hA.bel.cell (p := ⟨bl, off + k * 2 + 1, none⟩) hbl).trans q1
   have hl1 := hl _ (List.getElem_mem hks)
   have hdk : d[k]? = some d[k] := List.getElem?_eq_getElem hks
   generalize d[k] = x at c0 c1 hl1 hdk
   obtain ⟨p, kd⟩ := x
   dsimp only at c0 c1 hl1
   have hA2 := hA.alloc (.cells #[.string ⟨p.toArray⟩, .int .i64 kd] 67)
   have e9 := hA2.c9
   have e10 := hA2.c10
   have l9 : B9 ≠ wr.heap.size := by have := hA.l9; omega
   have l10 : B9 + 1 ≠ wr.heap.size := by have := hA.l10; omega
   clear hA q0 q1
   by_cases h2 : kd = 2
   ·subst h2
    obtain ⟨w6, hrun, hM6, hg6⟩ := Ec.del hA2.m1 underlying9 (t := 95) underlying95 (k := p) (by unfold maxLen; omega) 0
    have hst := hA2.step hdk hR1 hne hg6 (Ec.congr (Ec.mono hM6 (Nat.le_succ _)) fun q => by unfold Go.VS.stepG gdel; dsimp only; rfl)
    clear hM6 hg6 hA2 hdk
    go_wp2
    go_roundw
    case rel => exact ⟨k + 1, by omega, by simp, hst⟩
    case measure => simp only [Lib.intOf]; omega
   ·have hlk := Ec.Af1 hA2.m2 underlying9 (t := 95) underlying95 (AfI _) (by show ([] : Bs).length ≤ maxLen; unfold maxLen; simp) (k := p) (by unfold maxLen; omega)
    obtain ⟨w6, hrun, hM6, hg6⟩ := Ec.put hA2.m1 underlying9 (t := 95) underlying95 (by unfold maxLen; omega) (k := p) (by unfold maxLen; omega) (v := (D0 b p).getD []) (hbv p)
    have hst := hA2.step hdk hR1 hne hg6 (Ec.congr hM6 fun q => by unfold Go.VS.stepG gput; dsimp only; rw [if_neg h2])
    have hlk2 : (Instr.lookup 95 (.map (some R2)) (.string ⟨p.toArray⟩) false).run prog (wr.alloc (.cells #[.string ⟨p.toArray⟩, .int .i64 kd] 67)) = .ok (.string ⟨((D0 b p).getD []).toArray⟩) (wr.alloc (.cells #[.string ⟨p.toArray⟩, .int .i64 kd] 67)) := hlk
    have hrun2 : (Instr.mapUpdate 95 (.map (some R1)) (.string ⟨p.toArray⟩) (.string ⟨((D0 b p).getD []).toArray⟩)).run prog (wr.alloc (.cells #[.string ⟨p.toArray⟩, .int .i64 kd] 67)) = .ok () w6 := hrun
    clear hM6 hg6 hA2 hdk hlk hrun
    generalize (D0 b p).getD [] = vv at hlk2 hrun2
    go_wp2
    go_roundw
    case rel => exact ⟨k + 1, by omega, by simp, hst⟩
    case measure => simp only [Lib.intOf]; omega
  ·have hke : k = d.length := by omega
   subst hke
   have hM := hA.m1
   rw [List.take_length] at hM
   have hM : MG wr R1 (a.length + d.length) (Alp a b d) := hM
   have e9 := hA.c9
   have l9 := hA.l9
   have hBr := hA.bel
   clear hA hne hR1 hbv
   obtain ⟨g, hg⟩ : ∃ g, Alp a b d = g := ⟨_, rfl⟩
   rw [hg] at hM hgl hgv
   have hlenO : ∀ o, Ali g o → Kw o := fun o ho => hlenO o (by rw [hg]; exact ho)
   go_wp2_with (first | (go_at_call 72; refine (Al2 R1 wr).mono ?_; rintro e w6 ⟨rfl, rfl⟩) | (go_at_call 71; refine (AlN R1 (a.length + d.length) g wr hM hgl (by omega)).mono ?_; rintro e w7 ⟨pk, ck, ts, rfl, hks, hlt, hB7⟩))
   have hB6 : Below wr.heap.size wr (wr.alloc (.cells #[.map (some R1)] 95)) := (Below.refl _ wr).alloc (Nat.le_refl _) _
   have hB67 := hB6.trans (hB7.mono hB6.size)
   have hM7 := hM.below hB67 hM.lt
   have e97 : w7.cell? ⟨B9, 0, none⟩ = some (.map (some R1)) := (hB67.cell (p := ⟨B9, 0, none⟩) l9).trans e9
   have l97 : B9 < w7.heap.size := Nat.lt_of_lt_of_le l9 hB67.size
   have hB07 := hBr.trans (hB67.mono hBr.size)
   have hTO := Amh hks
   have htl := (hlenO _ hTO).1
   have htl2 : ts.length ≤ 1000000 := by unfold AlB at htl; rw [List.length_map, List.take_length] at htl; exact htl
   clear hB6 hB7 hB67 hM e9 l9 hBr htl hks
   have h0 : AlC w7 w7.heap.size (.slice none 0 0) (AlB g ts 0) := World.ownsRow_nil _ _ _ _
   go_loopw [13, 57] (fun v i wq => ∃ k : Nat, k ≤ ts.length ∧ i = .int .i64 k ∧ AlC wq w7.heap.size v (AlB g ts k) ∧ Below w7.heap.size w7 wq) (fun _ i _ => ts.length - (Lib.intOf i).toNat)
   case atStart => exact ⟨0, Nat.zero_le _, rfl, h0, Below.refl _ w7⟩
   case round =>
    clear h0
    obtain ⟨k, hk, hi, hown, hBq⟩ := hrel
    subst hi
    by_cases hks : k < ts.length
    ·obtain ⟨bl, off, rfl, hbl, q0⟩ := hlt.at_ k ts[k] (List.getElem?_eq_getElem hks)
     have c0 := (hBq.cell (p := ⟨bl, off + k, none⟩) hbl).trans q0
     have hkk : ts[k]? = some ts[k] := List.getElem?_eq_getElem hks
     generalize ts[k] = p at c0 hkk
     have hMq := hM7.below hBq hM7.lt
     have e9 := (hBq.cell (p := ⟨B9, 0, none⟩) l97).trans e97
     have hlp : p.length ≤ maxLen := by
      have := (hTO.2 p ((g p).getD [])).1 (by
       unfold AlB
       rw [List.take_length]
       exact List.mem_map.2 ⟨p, List.mem_of_getElem? hkk, rfl⟩)
      exact hgl p (by rw [this]; rfl)
     have hlk := Ec.Af1 hMq underlying9 (t := 95) underlying95 (AfI _) (by show ([] : Bs).length ≤ maxLen; unfold maxLen; simp) (k := p) hlp
     have hlk2 : (Instr.lookup 95 (.map (some R1)) (.string ⟨p.toArray⟩) false).run prog _ = .ok (.string ⟨((g p).getD []).toArray⟩) _ := hlk
     have hnx := Amg (g := g) hkk
     have hol : (AlB g ts k).length ≤ 1000000 := by unfold AlB; rw [List.length_map, List.length_take]; omega
     have hsz := hBq.size
     clear hlk hMq hkk q0 hlp
     generalize (g p).getD [] = vv at hlk2 hnx
     go_wp2_with (at_builtin; refine AmB w7.heap.size (p := p) (k := vv) rfl rfl rfl (World.ownsRow.alloc hown _) rfl ?b0 ?b1 ?b2 ?b3 ?b4)
     case b0 => simp
     case b1 => simp
     case b2 => exact Nat.le_trans hol (by decide)
     case b3 => simp; omega
     intro v2 w8 hown8 hg8
     rw [← hnx] at hown8
     go_wp2
     go_roundw
     case rel => exact ⟨k + 1, by omega, by simp, hown8, AhJ (hBq.alloc hsz _) (World.ownsRow.alloc hown _) hg8 (Nat.le_refl _)⟩
     case measure => simp only [Lib.intOf]; omega
    ·have hke : k = ts.length := by omega
     subst hke
     have hB0q := hB07.trans (hBq.mono hB07.size)
     have hown0 := Ami hown hB07.size
     have hcq := hck _ _ _ hB0q (hlenO _ hTO) hown0
     generalize AlB g ts ts.length = o at hTO hcq hown0
     clear hck hown hM7 e97 hlt hBq hB07
     by_cases hz : Fm o = 0
     ·rw [hz] at hcq
      go_wp2_with (go_at_call 73; refine hcq.mono ?_; rintro e w9 ⟨rfl, hB9⟩)
      go_ret2
      refine ⟨o, _, (by rw [hg]; exact hTO), AlE hown0 hB9, ?_, hB0q.trans (hB9.mono hB0q.size)⟩
      rw [hz]
      rfl
     ·go_wp2_with (go_at_call 73; refine hcq.mono ?_; rintro e w9 ⟨rfl, hB9⟩)
      go_ret2
      refine ⟨o, _, (by rw [hg]; exact hTO), AlE hown0 hB9, ?_, hB0q.trans (hB9.mono hB0q.size)⟩
      first | rfl | (rw [if_pos hz]; rfl)
theorem AmC {vs : Array Value} {a b c : Value} (h : vs.size = 3) (h0 : vs.getD 0 undef = a) (h1 : vs.getD 1 undef = b) (h2 : vs.getD 2 undef = c) : vs = #[a, b, c] := by
 apply Array.ext
 ·simpa using h
 ·intro i hi1 hi2
  have hi : i = 0 ∨ i = 1 ∨ i = 2 := by simp at hi2; omega
  rcases hi with rfl | rfl | rfl
  ·have : vs.getD 0 undef = vs[0] := by simp [hi1]
   rw [← this, h0]; rfl
  ·have : vs.getD 1 undef = vs[1] := by simp [hi1]
   rw [← this, h1]; rfl
  ·have : vs.getD 2 undef = vs[2] := by simp [hi1]
   rw [← this, h2]; rfl
theorem Amm (hBo : Aiy (Pg.of prog)) (hTC : Fw (Pg.of prog)) : Alv (Pg.of prog) := by
 rintro ⟨a, b, d⟩ ha hb hn hl
 dsimp only at ha hb hn hl
 refine Fn.Y7 (ps := [.val false (.sl (.pair .str .str)) (.node .brw .leaf), .val false (.sl (.pair .str .str)) (.node .brw .leaf), .val false (.sl (.pair .str (.int .i64))) (.node .brw .leaf)]) (t := .pair .str .str) (tt := .node .own .leaf) rfl rfl (a, b, d) fun f fn hf hfn => ?_
 have hfi : f = 28 := JO (by kernel_rfl) hf hfn
 subst hfi
 have hfe := Option.some.inj (hf.symm.trans func28)
 subst hfe
 refine ⟨by kernel_rfl, by kernel_rfl, fun μ sv w vs hsv hw hargs => ?_⟩
 have hsv : svs μ dv dl [.one (.sl .brw .leaf (.pair .str .str) a), .one (.sl .brw .leaf (.pair .str .str) b), .one (.sl .brw .leaf (.pair .str (.int .i64)) d)] sv := hsv
 match sv, hsv with
 | [s0, s1, s2], ⟨⟨a0, e0, r0⟩, ⟨a1, e1, r1⟩, ⟨a2, e2, r2⟩, _⟩ =>
  have r0 : a0 = .sl .brw 2 (a.map ((BT.pair .str .str).enc .leaf)) := r0
  have r1 : a1 = .sl .brw 2 (b.map ((BT.pair .str .str).enc .leaf)) := r1
  have r2 : a2 = .sl .brw 2 (d.map ((BT.pair .str (.int .i64)).enc .leaf)) := r2
  subst e0 r0 e1 r1 e2 r2
  obtain ⟨hsize, hat⟩ := hargs
  obtain ⟨C0, f0, g0, h0⟩ := hat 0 _ rfl
  obtain ⟨C1, f1, g1, h1⟩ := hat 1 _ rfl
  obtain ⟨C2, f2, _, h2⟩ := hat 2 _ rfl
  obtain ⟨pa, ca, hv0, hva⟩ := Abq (show RV C0 w (.sl .brw 2 (a.map ((BT.pair .str .str).enc .leaf))) (vs.getD 0 undef) f0 from h0)
  obtain ⟨pb, cb, hv1, hvb⟩ := Abq (show RV C1 w (.sl .brw 2 (b.map ((BT.pair .str .str).enc .leaf))) (vs.getD 1 undef) f1 from h1)
  obtain ⟨pd, cd, hv2, hvd⟩ := Ak1 (show RV C2 w (.sl .brw 2 (d.map ((BT.pair .str (.int .i64)).enc .leaf))) (vs.getD 2 undef) f2 from h2)
  have hvs := AmC hsize hv0 hv1 hv2
  subst hvs
  have hrd : Reads (Pg.of prog) w [.one (.sl .brw 2 (a.map ((BT.pair .str .str).enc .leaf))), .one (.sl .brw 2 (b.map ((BT.pair .str .str).enc .leaf)))] #[.slice pa a.length ca, .slice pb b.length cb] := by
   refine Afu ⟨rfl, fun t s hs => ?_⟩ (fun s hs => by
    simp only [List.mem_cons, List.not_mem_nil, or_false] at hs
    rcases hs with rfl | rfl
    ·exact .inr ⟨2, _, rfl, AfS a⟩
    ·exact .inr ⟨2, _, rfl, AfS b⟩) (fun _ _ => rfl) (Nat.le_refl _)
   match t, hs with
   | 0, hs => cases hs; exact ⟨C0, f0, g0, h0⟩
   | 1, hs => cases hs; exact ⟨C1, f1, g1, h1⟩
   | t + 2, hs => cases hs
  have hbo : Calls prog 66 #[.slice pa a.length ca, .slice pb b.length cb] w fun e w' => e = .returned (.int .i64 (AgN a b)) ∧ Below w.heap.size w w' := by
   refine (Fn.Aej (fun _ h => h) (S := Agy) rfl rfl (hBo (a, b) ha hb) func66 (by kernel_rfl) hw (μ := μ) (show svs μ dv dl [.one (.sl .brw .leaf (.pair .str .str) a), .one (.sl .brw .leaf (.pair .str .str) b)] [.one (.sl .brw 2 (a.map ((BT.pair .str .str).enc .leaf))), .one (.sl .brw 2 (b.map ((BT.pair .str .str).enc .leaf)))] from ⟨⟨_, rfl, rfl⟩, ⟨_, rfl, rfl⟩, trivial⟩) hrd).mono ?_
   rintro e w' ⟨r, d, hr, rfl, hB⟩
   have hr : r = AgN a b := hr
   subst hr
   exact ⟨rfl, hB⟩
  have nil : ∀ (c : Int) (w' : World), Below w.heap.size w w' → Aln a b d ([], c) → Below w.heap.size w w' ∧ ∃ (l : List Bh) (c' : Int) (d' : Unit), Aln a b d (l, c') ∧ ∃ (ns : Value) (f : List Nat) (z : Nat → Prop), (Ending.returned (.tuple #[.slice none 0 0, .int .i64 c]) = .returned (.tuple #[ns, .int .i64 c'])) ∧ RVs (hctx (Pg.of prog).toProgram z) w' ((BT.sl (.pair .str .str)).enc (.node .own .leaf) l) [ns] f ∧ f.Nodup ∧ (∀ b ∈ f, w.heap.size ≤ b ∧ b < w'.heap.size ∧ ¬ z b) ∧ (∀ b, z b → w.heap.size ≤ b ∧ b < w'.heap.size) := fun c w' hB hI =>
   ⟨hB, [], c, (), hI, .slice none 0 0, [], fun _ => False, rfl, .cons _ _ [] _ _ [] (.slNil _ _) .nil, List.nodup_nil, fun x hx => (nomatch hx), fun _ h => h.elim⟩
  by_cases hz : AgN a b = 0
  ·rw [hz] at hbo
   have hca : Fm a = 0 := by
    unfold AgN at hz
    split at hz
    ·rename_i h; exact absurd hz h
    ·omega
   have hcb : Fm b = 0 := by
    unfold AgN at hz
    rw [if_neg (by simpa using hca)] at hz
    exact hz
   cases hp : Ale d [] with
   | false =>
    refine (AlZ a b d pa pb pd ca cb cd w hn hl hvd hp hbo).mono ?_
    rintro e w' ⟨rfl, hB⟩
    exact nil 2 w' hB ⟨fun h => absurd hz h, fun _ _ => rfl, fun _ h => (by rw [hp] at h; cases h), fun _ h => (by rw [hp] at h; cases h)⟩
   | true =>
    cases hps : d.all (Ald a b) with
    | false =>
     refine (Al0 a b d pa pb pd ca cb cd w ha hb hn hl hva hvb hvd hp hps hbo).mono ?_
     rintro e w' ⟨rfl, hB⟩
     exact nil 5 w' hB ⟨fun h => absurd hz h, fun _ h => (by rw [hp] at h; cases h), fun _ _ _ => rfl, fun _ _ h => (by rw [hps] at h; cases h)⟩
    | true =>
     refine (Amn a b d pa pb pd ca cb cd w ha hb hca hcb hn hl hva hvb hvd hp hps hbo fun W v o hBW hol hown => ?_).mono ?_
     ·obtain ⟨hrv, _⟩ := Aad (t := .pair .str .str) rfl (show W.ownsRow w.heap.size 65 2 v o.length (o.map (BT.pair .str .str).fl).flatten from hown)
      refine (Fn.Aej (fun _ h => h) (S := CH) rfl rfl (hTC o hol) func73 (by kernel_rfl) (hw.of hBW) (μ := μ) (show svs μ dv dl [.one (.sl .brw .leaf (.pair .str .str) o)] [.one (.sl .brw 2 (o.map ((BT.pair .str .str).enc .leaf)))] from ⟨⟨_, rfl, rfl⟩, trivial⟩) (vs := #[v]) ⟨rfl, fun t s hs => ?_⟩).mono ?_
      ·match t, hs with
       | 0, hs => cases hs; exact ⟨rfl, fun C _ hC => hrv C fun b _ hb => (hC b hb).1⟩
       | t + 1, hs => cases hs
      ·rintro e w' ⟨r, d, hr, rfl, hB⟩
       have hr : r = Fm o := hr
       subst hr
       exact ⟨rfl, hB⟩
     ·rintro e w' ⟨o, v, hT, hown, rfl, hB⟩
      have hI : Aln a b d (if Fm o ≠ 0 then ([], Fm o) else (o, 0)) := ⟨fun h => absurd hz h, fun _ h => (by rw [hp] at h; cases h), fun _ _ h => (by rw [hps] at h; cases h), fun _ _ _ => ⟨o, hT, rfl⟩⟩
      by_cases hc : Fm o = 0
      ·rw [if_neg (by simpa using hc)] at hI
       rw [if_neg (by simpa using hc), hc]
       obtain ⟨_, g, hnd, hgb, hrv⟩ := Aad (t := .pair .str .str) rfl (show w'.ownsRow w.heap.size 65 2 v o.length (o.map (BT.pair .str .str).fl).flatten from hown)
       refine ⟨hB, o, 0, (), hI, v, g, fun _ => False, rfl, ?_, hnd, fun x hx => ⟨(hgb x hx).1, (hgb x hx).2, id⟩, fun _ h => h.elim⟩
       have := RVs.cons _ _ _ _ _ _ (hrv (hctx prog fun _ => False)) .nil
       rw [List.append_nil] at this
       exact this
      ·rw [if_pos hc] at hI
       rw [if_pos hc]
       exact nil _ w' hB hI
  ·refine (AlY a b d pa pb pd ca cb cd w _ hz hbo).mono ?_
   rintro e w' ⟨rfl, hB⟩
   exact nil _ w' hB ⟨fun _ => rfl, fun h => absurd h hz, fun h => absurd h hz, fun h => absurd h hz⟩
end Go.Proofs.Tryz
