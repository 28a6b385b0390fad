/- ancestry.Bases and Independent, as contracts. -/
import Derived.Test.YtdnomijflodcgaaGreatDoorKKAP
set_option linter.unusedVariables false
set_option linter.unusedSimpArgs false
namespace Go.Proofs.Tryz
open Go.Shelf Go.RowKit Go.VS Go Go.Sort
abbrev Abt : TT := .pair (.node .brw .leaf) (.pair .leaf (.node .brw .leaf))
abbrev gAV (g : List Ai) : AV := .sl .brw AJ.size (g.map (AJ.enc Abt))
abbrev iAV (l : List Int) : AV := .sl .brw 1 (l.map ((BT.int .i64).enc .leaf))
theorem Ac0 (g : List Ai) : (gAV g).rdo = true := by simp only [AV.rdo]; exact Lt (fun x => Pz AJ _ rfl x) g
theorem Ac1 (l : List Int) : (iAV l).rdo = true := by simp only [AV.rdo]; exact Lt (e := .int .i64) (fun x => rfl) l
theorem AbU {P : Pg} {W : World} {a b : AV} {v0 v1 : Value} (sa : a.solid = true) (sb : b.solid = true) (h : ∀ C : Ctx, (∀ b, b < W.heap.size → C.zb b ∧ C.zt b) → RV C W a v0 [] ∧ RV C W b v1 []) : Reads P W [.one a, .one b] #[v0, v1] := by
 refine ⟨rfl, fun i s hi => ?_⟩
 match i, hi with
 | 0, hi => cases hi; exact ⟨by show [a].all AV.solid = true; simp [sa], fun C _ hC => (h C hC).1⟩
 | 1, hi => cases hi; exact ⟨by show [b].all AV.solid = true; simp [sb], fun C _ hC => (h C hC).2⟩
 | i + 2, hi => cases hi
structure Aed (g : List Ai) (w : World) (pa : Option Addr) (ca : Nat) : Prop where
 rv : ∀ (W : World), Below w.heap.size w W → ∀ C : Ctx, (∀ b, b < W.heap.size → C.zb b ∧ C.zt b) → RV C W (gAV g) (.slice pa g.length ca) []
theorem YT {g : List Ai} {w : World} {C : Ctx} {v : Value} {f : List Nat} (h : RV C w (gAV g) v f) : ∃ pa ca, v = .slice pa g.length ca ∧ Aed g w pa ca := by
 have hv : ∃ pa ca, v = .slice pa g.length ca := by
  rcases Zd h with ⟨hn, a, c, rfl⟩ | ⟨b, off, c, rfl, _⟩
  ·have hn : g = [] := List.map_eq_nil_iff.1 hn; subst hn; exact ⟨a, c, rfl⟩
  ·exact ⟨some ⟨b, off, none⟩, c, by rw [List.length_map]⟩
 obtain ⟨pa, ca, rfl⟩ := hv; exact ⟨pa, ca, rfl, ⟨fun W hB C' hC => RV.reads (fun b hb => hC b (Nat.lt_of_lt_of_le hb hB.size)) (fun b hb => hB.block b hb) h (Ac0 g)⟩⟩
theorem XS (C : Ctx) (W : World) (c : Int) : RV C W (.lit (.int .i64 c)) (.int .i64 c) [] := .lit _ rfl
theorem YF (hA : Jh (Pg.of prog)) {g : List Ai} (hg0 : Dt g 0) {w : World} (hw : Late (Pg.of prog) w) {pa : Option Addr} {ca : Nat} (hG : Aed g w pa ca) : PL g pa ca w := fun W c hB hc => by
 obtain ⟨hn, hv, hpl⟩ := Jo hg0; refine (Fn.AcS (fun _ h => h) (ps := A9.ps) rfl (hA (g, c) hn hv hpl hc) func57 (by kernel_rfl) (hw.of hB) (μ := fun _ => 0) (show svs (fun _ => 0) dv dl [.one (.sl .brw Abt AJ g), .one (.int .i64 c)] [.one (gAV g), .one (.lit (.int .i64 c))] from ⟨⟨_, rfl, rfl⟩, ⟨_, rfl, rfl⟩, trivial⟩) (AbU rfl rfl fun C hC => ⟨hG.rv W hB C hC, XS _ _ _⟩)).mono ?_
 rintro e w' ⟨hB2, t, d, ht, v, C, f, rfl, hrv, _, hf⟩; have ht : L0 g [c] t := ht; obtain ⟨pt, ct, rfl, hbl⟩ := Aa0 hrv (fun b hb => (hf b hb).1); refine ⟨pt, ct, t, ht, by rw [ht.1], hbl, hB2⟩
theorem U7 (hC : Ez (Pg.of prog)) {g : List Ai} (hs : Mt g) {l : List Int} (hl : l.length ≤ 1000000) {w W : World} (hw : Late (Pg.of prog) w) {pa : Option Addr} {ca : Nat} (hG : Aed g w pa ca) (hB : Below w.heap.size w W) {v : Value} (hv : ∀ C : Ctx, (∀ b, b < W.heap.size → C.zb b ∧ C.zt b) → RV C W (iAV l) v []) :
  Calls prog 56 #[.slice pa g.length ca, v] W fun e w' => ∃ r : Int, (∃ e, Dt g e ∧ (e ≠ 0 → r = e) ∧ (e = 0 → ((∀ c ∈ l, inR g c) → r = 0) ∧ (¬(∀ c ∈ l, inR g c) → r = 5))) ∧ e = .returned (.int .i64 r) ∧ Below W.heap.size W w' := by
 refine (Fn.Aej (fun _ h => h) (S := Bz) rfl rfl (hC (g, l) hs hl) func56 (by kernel_rfl) (hw.of hB) (μ := fun _ => 0) (show svs (fun _ => 0) dv dl [.one (.sl .brw Abt AJ g), .one (.sl .brw .leaf (.int .i64) l)] [.one (gAV g), .one (iAV l)] from ⟨⟨_, rfl, rfl⟩, ⟨_, rfl, rfl⟩, trivial⟩) (AbU rfl rfl fun C hC => ⟨hG.rv W hB C hC, hv C hC⟩)).mono ?_; rintro e w' ⟨r, d, hr, rfl, hB⟩
 exact ⟨r, hr, rfl, hB⟩
theorem Adg (w : World) (a b : Int) : ∀ C : Ctx, (∀ b', b' < (w.alloc (.cells #[.int .i64 a, .int .i64 b] 3)).heap.size → C.zb b' ∧ C.zt b') → RV C (w.alloc (.cells #[.int .i64 a, .int .i64 b] 3)) (iAV [a, b]) (.slice (some ⟨w.heap.size, 0, none⟩) 2 2) [] := fun C hC => by
 have hb : (w.alloc (.cells #[.int .i64 a, .int .i64 b] 3)).heap[w.heap.size]? = some (.cells #[.int .i64 a, .int .i64 b] 3 (0, 0)) := heap_alloc_new w _; refine RV.shr .brw 1 ([a, b].map ((BT.int .i64).enc .leaf)) w.heap.size 0 2 #[.int .i64 a, .int .i64 b] 3 (0, 0) (by decide) (hC _ (by simp)).1 (fun h => nomatch h) hb (by simp) (by simp) (fun x hx => ?_) ?_
 ·obtain ⟨y, _, rfl⟩ := List.mem_map.1 hx; rfl
 ·exact .cons _ _ [] _ _ [] (XS _ _ _) (.cons _ _ [] _ _ [] (XS _ _ _) .nil)
theorem Ac3 (l : List Int) : l.map (Value.int .i64) = (l.map (BT.int .i64).fl).flatten := by
 induction l with
 | nil => rfl
 | cons x l ih => rw [List.map_cons, List.map_cons, List.flatten_cons, ih]; rfl
theorem AfY {vs : Array Value} {a b : Value} (h : vs.size = 2) (h0 : vs.getD 0 undef = a) (h1 : vs.getD 1 undef = b) : vs = #[a, b] := by
 apply Array.ext
 ·simpa using h
 ·intro i hi1 hi2
  have hi : i = 0 ∨ i = 1 := by simp at hi2; omega
  rcases hi with rfl | rfl
  ·have : vs.getD 0 undef = vs[0] := by simp [hi1]
   rw [← this, h0]; rfl
  ·have : vs.getD 1 undef = vs[1] := by simp [hi1]
   rw [← this, h1]; rfl
theorem AfZ {vs : Array Value} {a b c : Value} (h : vs.size = 3) (h0 : vs.getD 0 undef = a) (h1 : vs.getD 1 undef = b) (h2 : vs.getD 2 undef = c) : vs = #[a, b, c] := by
 apply Array.ext
 ·simpa using h
 ·intro i hi1 hi2
  have hi : i = 0 ∨ i = 1 ∨ i = 2 := by simp at hi2; omega
  rcases hi with rfl | rfl | rfl
  ·have : vs.getD 0 undef = vs[0] := by simp [hi1]
   rw [← this, h0]; rfl
  ·have : vs.getD 1 undef = vs[1] := by simp [hi1]
   rw [← this, h1]; rfl
  ·have : vs.getD 2 undef = vs[2] := by simp [hi1]
   rw [← this, h2]; rfl
theorem VO {w w' : World} {v : Value} {d : List Int} {K : List Int × Int → Prop} (hown : Fs w' w.heap.size v d) (hB : Below w.heap.size w w') (hK : K (d, 0)) :
  Below w.heap.size w w' ∧ ∃ (l : List Int) (c : Int) (d' : Unit), K (l, c) ∧ ∃ (ns : Value) (f : List Nat) (z : Nat → Prop), (Ending.returned (.tuple #[v, .int .i64 0]) = .returned (.tuple #[ns, .int .i64 c])) ∧ RVs (hctx (Pg.of prog).toProgram z) w' ((BT.sl (.int .i64)).enc (.node .own .leaf) l) [ns] f ∧ f.Nodup ∧ (∀ b ∈ f, w.heap.size ≤ b ∧ b < w'.heap.size ∧ ¬ z b) ∧ (∀ b, z b → w.heap.size ≤ b ∧ b < w'.heap.size) := by
 have hrow : w'.ownsRow w.heap.size 3 (BT.int .i64).size v d.length (d.map (BT.int .i64).fl).flatten := by
  rw [← Ac3]; exact hown
 obtain ⟨_, f, hnd, hfb, hrv⟩ := Aad (t := .int .i64) rfl hrow; refine ⟨hB, d, 0, (), hK, v, f, fun _ => False, rfl, ?_, hnd, fun x hx => ⟨(hfb x hx).1, (hfb x hx).2, id⟩, fun _ h => h.elim⟩; have := RVs.cons _ _ _ _ _ _ (hrv (hctx prog fun _ => False)) .nil; rw [List.append_nil] at this; exact this
theorem VW {w w' : World} {r : Int} {K : List Int × Int → Prop} (hB : Below w.heap.size w w') (hK : K ([], r)) :
  Below w.heap.size w w' ∧ ∃ (l : List Int) (c : Int) (d' : Unit), K (l, c) ∧ ∃ (ns : Value) (f : List Nat) (z : Nat → Prop), (Ending.returned (.tuple #[.slice none 0 0, .int .i64 r]) = .returned (.tuple #[ns, .int .i64 c])) ∧ RVs (hctx (Pg.of prog).toProgram z) w' ((BT.sl (.int .i64)).enc (.node .own .leaf) l) [ns] f ∧ f.Nodup ∧ (∀ b ∈ f, w.heap.size ≤ b ∧ b < w'.heap.size ∧ ¬ z b) ∧ (∀ b, z b → w.heap.size ≤ b ∧ b < w'.heap.size) :=
 ⟨hB, [], r, (), hK, _, [], fun _ => False, rfl, .cons _ _ [] _ _ [] (.slNil _ _) .nil, List.nodup_nil, fun x hx => (nomatch hx), fun _ h => h.elim⟩
theorem YG {g : List Ai} {l : List Int} {ok : Prop} (hok : ok ↔ ∀ c ∈ l, inR g c) {good : List Int → Prop} (h : ¬(Dt g 0 ∧ ok)) {r : Int} (hr : ∃ e, Dt g e ∧ (e ≠ 0 → r = e) ∧ (e = 0 → ((∀ c ∈ l, inR g c) → r = 0) ∧ (¬(∀ c ∈ l, inR g c) → r = 5))) : JP g ok [] good ([], r) ∧ ¬r = 0 := by
 obtain ⟨k, hk, h1, h2⟩ := hr
 by_cases hk0 : k = 0
 ·subst hk0
  have hno : ¬ok := fun q => h ⟨hk, q⟩
  have hr := (h2 rfl).2 fun q => hno (hok.2 q)
  subst hr; exact ⟨⟨0, hk, fun q => absurd rfl q, fun _ _ => rfl, fun _ q => absurd q hno⟩, by decide⟩
 ·have hr := h1 hk0; subst hr; exact ⟨⟨_, hk, fun _ => rfl, fun q => absurd q hk0, fun q => absurd q hk0⟩, hk0⟩
theorem AaW (hC : Ez (Pg.of prog)) (hA : Jh (Pg.of prog)) : Lc (Pg.of prog) := by
 rintro ⟨g, a, b⟩ hs; dsimp only at hs
 refine Fn.Y7 (ps := Dh.ps) (t := .int .i64) (tt := .node .own .leaf) rfl rfl (g, (a, b)) fun f fn hf hfn => ?_
 have hfi : f = 23 := JO (by kernel_rfl) hf hfn; subst hfi; have hfe := Option.some.inj (hf.symm.trans func23); subst hfe; refine ⟨by kernel_rfl, by kernel_rfl, fun μ sv w vs hsv hw hargs => ?_⟩; have hsv : svs μ dv dl [.one (.sl .brw Abt AJ g), .one (.int .i64 a), .one (.int .i64 b)] sv := hsv
 match sv, hsv with
 | [s0, s1, s2], ⟨⟨a0, e0, r0⟩, ⟨a1, e1, r1⟩, ⟨a2, e2, r2⟩, _⟩ =>
  have r0 : a0 = gAV g := r0; have r1 : a1 = .lit (.int .i64 a) := r1; have r2 : a2 = .lit (.int .i64 b) := r2; subst e0 r0 e1 r1 e2 r2; obtain ⟨hsize, hat⟩ := hargs; obtain ⟨C0, f0, _, h0⟩ := hat 0 _ rfl; obtain ⟨C1, f1, _, h1⟩ := hat 1 _ rfl; obtain ⟨C2, f2, _, h2⟩ := hat 2 _ rfl; obtain ⟨pa, ca, hv0, hG⟩ := YT (show RV C0 w (gAV g) (vs.getD 0 undef) f0 from h0)
  have hv1 : vs.getD 1 undef = .int .i64 a := RV.Dr (show RV C1 w (.lit (.int .i64 a)) (vs.getD 1 undef) f1 from h1); have hv2 : vs.getD 2 undef = .int .i64 b := RV.Dr (show RV C2 w (.lit (.int .i64 b)) (vs.getD 2 undef) f2 from h2); have hvs := AfZ hsize hv0 hv1 hv2; subst hvs
  have hB0 : Below w.heap.size w (w.alloc (.cells #[.int .i64 a, .int .i64 b] 3)) := (Below.refl _ w).alloc (Nat.le_refl _) _; have hck := U7 hC hs (l := [a, b]) (by simp) hw hG hB0 (Adg w a b)
  have hok : (inR g a ∧ inR g b) ↔ ∀ c ∈ [a, b], inR g c := by simp
  by_cases h : Dt g 0 ∧ (inR g a ∧ inR g b)
  ·obtain ⟨hg0, ha, hb⟩ := h; refine (AaX g pa ca a b w (Jo hg0).1 ha hb (YF hA hg0 hw hG) (hck.mono ?_)).mono ?_
   ·rintro e w' ⟨r, ⟨k, hk, h1, h2⟩, rfl, hB⟩; have := Ju hk hg0; subst this; have hr := (h2 rfl).1 (hok.1 ⟨ha, hb⟩); subst hr; exact ⟨rfl, hB⟩
   ·rintro e w' ⟨v, d, hd, hown, rfl, hB⟩; exact VO (K := fun d => E9 g a b d) hown hB ⟨0, hg0, fun q => absurd rfl q, fun _ q => absurd ⟨ha, hb⟩ q, fun _ _ => ⟨hd, rfl⟩⟩
  ·refine (Zu pa g.length ca a b w (fun r => E9 g a b ([], r) ∧ ¬r = 0) (fun r hr => hr.2) (hck.mono ?_)).mono ?_
   ·rintro e w' ⟨r, hr, rfl, hB⟩; exact ⟨r, YG hok h hr, rfl, hB⟩
   ·rintro e w' ⟨r, hr, rfl, hB⟩; exact VW (K := fun d => E9 g a b d) hB hr.1
theorem Aeq (hC : Ez (Pg.of prog)) (hA : Jh (Pg.of prog)) : Pu (Pg.of prog) := by
 rintro ⟨g, l⟩ hs hl; dsimp only at hs hl
 refine Fn.Y7 (ps := B8.ps) (t := .int .i64) (tt := .node .own .leaf) rfl rfl (g, l) fun f fn hf hfn => ?_
 have hfi : f = 25 := JO (by kernel_rfl) hf hfn; subst hfi; have hfe := Option.some.inj (hf.symm.trans func25); subst hfe; refine ⟨by kernel_rfl, by kernel_rfl, fun μ sv w vs hsv hw hargs => ?_⟩; have hsv : svs μ dv dl [.one (.sl .brw Abt AJ g), .one (.sl .brw .leaf (.int .i64) l)] sv := hsv
 match sv, hsv with
 | [s0, s1], ⟨⟨a0, e0, r0⟩, ⟨a1, e1, r1⟩, _⟩ =>
  have r0 : a0 = gAV g := r0; have r1 : a1 = iAV l := r1; subst e0 r0 e1 r1; obtain ⟨hsize, hat⟩ := hargs; obtain ⟨C0, f0, _, h0⟩ := hat 0 _ rfl; obtain ⟨C1, f1, _, h1⟩ := hat 1 _ rfl; obtain ⟨pa, ca, hv0, hG⟩ := YT (show RV C0 w (gAV g) (vs.getD 0 undef) f0 from h0); have h1 : RV C1 w (iAV l) (vs.getD 1 undef) f1 := h1; obtain ⟨al, cl, hv1, hla⟩ := AbF h1; have hvs := AfY hsize hv0 hv1; subst hvs
  have hck := U7 hC hs (l := l) hl hw hG (Below.refl _ w) (v := .slice al l.length cl) fun C hC => RV.reads (fun b hb => hC b hb) (fun _ _ => rfl) h1 (Ac1 l)
  by_cases h : Dt g 0 ∧ (∀ c ∈ l, inR g c)
  ·obtain ⟨hg0, hr0⟩ := h; refine (Aer g pa ca l al cl w (Jo hg0).1 hl hr0 (YF hA hg0 hw hG) hla (hck.mono ?_)).mono ?_
   ·rintro e w' ⟨r, ⟨k, hk, h1, h2⟩, rfl, hB⟩; have := Ju hk hg0; subst this; have hr := (h2 rfl).1 hr0; subst hr; exact ⟨rfl, hB⟩
   ·rintro e w' ⟨v, d, hd, hown, rfl, hB⟩; exact VO (K := fun d => JR g l d) hown hB ⟨0, hg0, fun q => absurd rfl q, fun _ q => absurd hr0 q, fun _ _ => ⟨hd, rfl⟩⟩
  ·refine (Ac2 pa al g.length ca l.length cl w (fun r => JR g l ([], r) ∧ ¬r = 0) (fun r hr => hr.2) (hck.mono ?_)).mono ?_
   ·rintro e w' ⟨r, hr, rfl, hB⟩; exact ⟨r, YG Iff.rfl h hr, rfl, hB⟩
   ·rintro e w' ⟨r, hr, rfl, hB⟩; exact VW (K := fun d => JR g l d) hB hr.1
end Go.Proofs.Tryz
