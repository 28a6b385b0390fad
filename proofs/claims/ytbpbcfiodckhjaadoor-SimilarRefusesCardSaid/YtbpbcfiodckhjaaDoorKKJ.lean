/- similar.Renames: the errors of the trees. -/
import Derived.Test.YtbpbcfiodckhjaaDoorKKX
import Derived.Test.YtbpbcfiodckhjaaDoorKKY
import Derived.Test.YtbpbcfiodckhjaaDoorKKZ
import Derived.Test.YtbpbcfiodckhjaaDoorKSpRenE
set_option linter.unusedVariables false
set_option linter.unusedSimpArgs false
namespace Go.Proofs.Tryd
open Go.Shelf Go.RowKit Go.VS Go Go.Maps
set_option maxHeartbeats 1000000 in
theorem Aai (a b : List Aw) (least : Int) (pa pb : Option Addr) (ca cb : Nat) (w : World) (E : Int) (hE : ¬ E = 0)
  (hbo : Calls prog 56 #[.slice pa a.length ca, .slice pb b.length cb] w fun e w' => e = .returned (.int .i64 E) ∧ Below w.heap.size w w') :
  Calls prog 38 #[.slice pa a.length ca, .slice pb b.length cb, .int .i64 least] w fun e w' => e = .returned (.tuple #[.slice none 0 0, .int .i64 E]) ∧ Below w.heap.size w w' := by
 have hcon := Ve a b pa pb ca cb w E hE hbo
 go_enter func38, ntmps38
 go_wp2_with (go_at_call 31; refine hcon.mono ?_; rintro e w1 ⟨rfl, hB1⟩)
 go_ret2
 exact ⟨rfl, hB1⟩
theorem vs3 {vs : Array Value} {a b c : Value} (h : vs.size = 3) (h0 : vs.getD 0 undef = a) (h1 : vs.getD 1 undef = b) (h2 : vs.getD 2 undef = c) : vs = #[a, b, c] := by
 apply Array.ext
 ·simpa using h
 ·intro i hi1 hi2
  have hi : i = 0 ∨ i = 1 ∨ i = 2 := by simp at hi2; omega
  rcases hi with rfl | rfl | rfl
  ·have : vs.getD 0 undef = vs[0] := by simp [hi1]
   rw [← this, h0]; rfl
  ·have : vs.getD 1 undef = vs[1] := by simp [hi1]
   rw [← this, h1]; rfl
  ·have : vs.getD 2 undef = vs[2] := by simp [hi1]
   rw [← this, h2]; rfl
theorem AaA (hBo : L7 (Pg.of prog)) : Z8 (Pg.of prog) := by
 rintro ⟨a, b, least⟩ ha hb hE
 dsimp only at ha hb hE
 refine Fn.WO (ps := [.val false (.sl (.pair .str .str)) (.node .brw .leaf), .val false (.sl (.pair .str .str)) (.node .brw .leaf), .val false (.int .i64) .leaf]) (t := YW) (tt := .node .own .leaf) rfl rfl (a, b, least) fun f fn hf hfn => ?_
 have hfi : f = 38 := Iw (by kernel_rfl) hf hfn
 subst hfi
 have hfe := Option.some.inj (hf.symm.trans func38)
 subst hfe
 refine ⟨by kernel_rfl, by kernel_rfl, fun μ sv w vs hsv hw hargs => ?_⟩
 have hsv : svs μ dv dl [.one (.sl .brw .leaf (.pair .str .str) a), .one (.sl .brw .leaf (.pair .str .str) b), .one (.int .i64 least)] sv := hsv
 match sv, hsv with
 | [s0, s1, s2], ⟨⟨a0, e0, r0⟩, ⟨a1, e1, r1⟩, ⟨a2, e2, r2⟩, _⟩ =>
  have r0 : a0 = .sl .brw 2 (a.map ((BT.pair .str .str).enc .leaf)) := r0
  have r1 : a1 = .sl .brw 2 (b.map ((BT.pair .str .str).enc .leaf)) := r1
  have r2 : a2 = .lit (.int .i64 least) := r2
  subst e0 r0 e1 r1 e2 r2
  obtain ⟨hsize, hat⟩ := hargs
  obtain ⟨C0, f0, _, h0⟩ := hat 0 _ rfl
  obtain ⟨C1, f1, _, h1⟩ := hat 1 _ rfl
  obtain ⟨C2, f2, _, h2⟩ := hat 2 _ rfl
  obtain ⟨pa, ca, hv0, hst0⟩ := MJ (show RV C0 w (.sl .brw 2 (a.map ((BT.pair .str .str).enc .leaf))) (vs.getD 0 undef) f0 from h0)
  obtain ⟨pb, cb, hv1, hst1⟩ := MJ (show RV C1 w (.sl .brw 2 (b.map ((BT.pair .str .str).enc .leaf))) (vs.getD 1 undef) f1 from h1)
  have hv2 : vs.getD 2 undef = .int .i64 least := RV.CW (show RV C2 w (.lit (.int .i64 least)) (vs.getD 2 undef) f2 from h2)
  have hvs := vs3 hsize hv0 hv1 hv2
  subst hvs
  have hrd : Reads (Pg.of prog) w [.one (.sl .brw 2 (a.map ((BT.pair .str .str).enc .leaf))), .one (.sl .brw 2 (b.map ((BT.pair .str .str).enc .leaf)))] #[.slice pa a.length ca, .slice pb b.length cb] := by
   refine VK ⟨rfl, fun t s hs => ?_⟩ (fun s hs => by
    simp only [List.mem_cons, List.not_mem_nil, or_false] at hs
    rcases hs with rfl | rfl
    ·exact .inr ⟨2, _, rfl, XU a⟩
    ·exact .inr ⟨2, _, rfl, XU b⟩) (fun _ _ => rfl) (Nat.le_refl _)
   match t, hs with
   | 0, hs => cases hs; exact ⟨C0, f0, by assumption, h0⟩
   | 1, hs => cases hs; exact ⟨C1, f1, by assumption, h1⟩
   | t + 2, hs => cases hs
  have hbo : Calls prog 56 #[.slice pa a.length ca, .slice pb b.length cb] w fun e w' => e = .returned (.int .i64 (Hl a b)) ∧ Below w.heap.size w w' := by
   refine (Fn.XL (fun _ h => h) (S := Dn) rfl rfl (hBo (a, b) ha hb) func56 (by kernel_rfl) hw (μ := μ) (show svs μ dv dl [.one (.sl .brw .leaf (.pair .str .str) a), .one (.sl .brw .leaf (.pair .str .str) b)] [.one (.sl .brw 2 (a.map ((BT.pair .str .str).enc .leaf))), .one (.sl .brw 2 (b.map ((BT.pair .str .str).enc .leaf)))] from ⟨⟨_, rfl, rfl⟩, ⟨_, rfl, rfl⟩, trivial⟩) hrd).mono ?_
   rintro e w' ⟨r, d, hr, rfl, hB⟩
   have hr : r = Hl a b := hr
   subst hr
   exact ⟨rfl, hB⟩
  refine (Aai a b least pa pb ca cb w _ hE hbo).mono ?_
  rintro e w' ⟨rfl, hB⟩
  exact ⟨hB, [], Hl a b, (), rfl, _, [], fun _ => False, rfl, .cons _ _ [] _ _ [] (.slNil _ _) .nil, List.nodup_nil, fun x hx => (nomatch hx), fun _ h => h.elim⟩
end Go.Proofs.Tryd
