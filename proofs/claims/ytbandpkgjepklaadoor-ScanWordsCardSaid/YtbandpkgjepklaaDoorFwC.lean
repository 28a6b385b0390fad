/- A semantics of values for the model, shown sound for it, and the lifting of functions to plain propositions: part 3. -/
import Derived.Test.YtbandpkgjepklaaDoorFwB
set_option linter.unusedVariables false
set_option linter.unusedSimpArgs false
set_option linter.unusedSectionVars false
namespace Go.VS
def R (α : Type) : Type := Option (List Prop × α)
namespace R
def pure {α : Type} (a : α) : R α := some ([], a)
def need (p : Prop) : R Unit := some ([p], ())
def fail {α : Type} : R α := none
def bind {α β : Type} (x : R α) (f : α → R β) : R β :=
 match x with
 | none => none
 | some (p, a) => match f a with
  | none => none
  | some (q, b) => some (p ++ q, b)
instance : Monad R where
 pure := R.pure
 bind := R.bind
def AllP : List Prop → Prop
 | [] => True
 | p :: ps => p ∧ AllP ps
theorem AllP_append : ∀ (ps qs : List Prop), AllP (ps ++ qs) ↔ AllP ps ∧ AllP qs
 | [], qs => by simp [AllP]
 | p :: ps, qs => by simp [AllP, AllP_append ps qs, and_assoc]
def ok {α : Type} (x : R α) (a : α) : Prop := ∃ ps, x = some (ps, a) ∧ AllP ps
theorem ok_bind {α β : Type} {x : R α} {f : α → R β} {b : β} : (x >>= f).ok b ↔ ∃ a, x.ok a ∧ (f a).ok b := by
 show (R.bind x f).ok b ↔ _
 unfold R.bind ok
 constructor
 ·rintro ⟨ps, h, hp⟩
  split at h
  case h_1 => cases h
  rename_i p a
  split at h
  case h_1 => cases h
  rename_i q b' hf
  cases h
  rw [AllP_append] at hp
  exact ⟨a, ⟨p, rfl, hp.1⟩, ⟨q, hf, hp.2⟩⟩
 ·rintro ⟨a, ⟨p, rfl, hp⟩, ⟨q, hf, hq⟩⟩
  refine ⟨p ++ q, ?_, (AllP_append _ _).2 ⟨hp, hq⟩⟩
  simp only [hf]
  rfl
theorem ok_pure {α : Type} {a b : α} : (Pure.pure a : R α).ok b ↔ a = b := by
 constructor
 ·rintro ⟨ps, h, _⟩; cases h; rfl
 ·rintro rfl; exact ⟨[], rfl, trivial⟩
theorem ok_need {p : Prop} {u : Unit} : (R.need p).ok u ↔ p := by
 constructor
 ·rintro ⟨ps, h, h2⟩; cases h; exact h2.1
 ·intro h; exact ⟨[p], rfl, h, trivial⟩
theorem ok_fail {α : Type} {a : α} : (R.fail : R α).ok a ↔ False := by
 constructor
 ·rintro ⟨ps, h, _⟩; cases h
 ·exact False.elim
def ofOpt {α : Type} : Option α → R α
 | some a => Pure.pure a
 | none => R.fail
theorem ok_ofOpt {α : Type} {x : Option α} {a : α} : (ofOpt x).ok a ↔ x = some a := by
 cases x with
 | none => simp [ofOpt, ok_fail]
 | some b => simp [ofOpt, ok_pure]
end R
def constC : Value → TC
 | .int k n => .int k n
 | .bool b => .bool b
 | .string s => .str s.data.toList
 | .slice none 0 0 => .nil
 | v => .lit v
def gsub (gd g : Gd) : Bool := gd.all fun p => g.any fun q => Nat.beq p.1 q.1 && (bif p.2 then q.2 else !q.2)
def peek1 (p : Place) : TC → TC
 | .sl .own tt e _ => .ref p tt e none
 | c => c
def peekC (mk : Nat → Place) : Nat → List TC → List TC
 | _, [] => []
 | j, c :: l => peek1 (mk j) c :: peekC mk (j + 1) l
def TSV.peek (n : Nat) : TSV → TSV
 | .one c => .one (peek1 ⟨.slot n 0, []⟩ c)
 | .agg l => .agg (peekC (fun j => ⟨.slot n j, []⟩) 0 l)
 | .clo f l => .clo f l
def atC : TC → List Stp → R TC
 | c, [] => pure c
 | .sl .own tt e l, s :: r => if s.k = e.size then do
   R.need (s.i < l.length)
   match (e.ex tt (l.getD s.i e.dflt))[s.c]? with
   | some c => atC c r
   | none => R.fail
  else R.fail
 | _, _ => R.fail
def selI : List TC → Option (IntKind × List Int)
 | [] => none
 | [.int k n] => some (k, [n])
 | .int k n :: l => match selI l with
  | some (k', ns) => if k = k' then some (k, n :: ns) else none
  | none => none
 | _ => none
def selS : List TC → Option (List (List UInt8))
 | [] => some []
 | .str s :: l => match selS l with
  | some ns => some (s :: ns)
  | none => none
 | _ => none
def selC (l : List TC) (i : Nat) : Option TC := match selI l with
 | some (k, ns) => some (.int k (ns.getD i 0))
 | none => match selS l with
  | some ns => some (.str (ns.getD i []))
  | none => none
def mkT (agg : Bool) (l : List TC) : TSV := bif agg then .agg l else .one (l.headD .dead)
def setT (l : List TC) (c : Nat) : List TC → List TC
 | [] => l
 | a :: as => setT (l.set c a) (c + 1) as
def eqC : CK → TC → TC → Option Bool
 | .int, .int k a, .int k' b => if k = k' then some (a == b) else none
 | .str, .str a, .str b => some (a == b)
 | .bool, .bool a, .bool b => some (a == b)
 | _, _, _ => none
def eqCs : List CK → List TC → List TC → Option Bool
 | [], [], [] => some true
 | k :: ks, a :: l, b :: m => match eqC k a b, eqCs ks l m with
  | some x, some y => some (x && y)
  | _, _ => none
 | _, _, _ => none
def winL {α : Type} (lo hi : Option Int) (l : List α) : List α := match lo, hi with
 | none, none => l
 | some a, none => l.drop a.toNat
 | none, some b => l.take b.toNat
 | some a, some b => (l.take b.toNat).drop a.toNat
section
variable (F Γ : TS)
def gimp : Gd → Prop → Prop
 | [], p => p
 | (t, w) :: r, p => match slotB F Γ t with
  | some b => b = w → gimp r p
  | none => p
def needG (g : Gd) (p : Prop) : R Unit := R.need (gimp F Γ g p)
def useT (g : Gd) : Opd → R TSV
 | .c v => pure (.one (constC v))
 | .f nm => pure (.clo (nm, false) [])
 | .t n => match TS.slot F Γ n with
  | some (.val gd v) => bif gsub gd g then pure (v.peek n) else R.fail
  | _ => R.fail
def useO (g : Gd) (x : Opd) : R TC := do
 match ← useT F Γ g x with
 | .one c => pure c
 | _ => R.fail
def useI (g : Gd) (x : Opd) : R Int := do
 match ← useT F Γ g x with
 | .one (.int _ n) => pure n
 | _ => R.fail
def useB (g : Gd) (x : Opd) : R Bool := do
 match ← useT F Γ g x with
 | .one (.bool b) => pure b
 | _ => R.fail
def useA (g : Gd) (x : Opd) : R (List TC) := do
 match ← useT F Γ g x with
 | .agg l => pure l
 | _ => R.fail
def atR (p : Place) : R TC := match rootT F Γ p.root with
 | some c => atC c p.path
 | none => R.fail
def binIT (g : Gd) (op : BinOp) (k k' : IntKind) (a b : Int) : R TC :=
 match op with
 | .add => if k = k' then pure (.int k (k.wrap (a + b))) else R.fail
 | .sub => if k = k' then pure (.int k (k.wrap (a - b))) else R.fail
 | .mul => if k = k' then pure (.int k (k.wrap (a * b))) else R.fail
 | .quo => if k = k' then do needG F Γ g (b ≠ 0); pure (.int k (k.wrap (a.tdiv b))) else R.fail
 | .rem => if k = k' then do needG F Γ g (b ≠ 0); pure (.int k (a.tmod b)) else R.fail
 | .and => if k = k' then pure (.int k (k.wrap (BitVec.ofInt k.bits a &&& BitVec.ofInt k.bits b).toNat)) else R.fail
 | .or => if k = k' then pure (.int k (k.wrap (BitVec.ofInt k.bits a ||| BitVec.ofInt k.bits b).toNat)) else R.fail
 | .xor => if k = k' then pure (.int k (k.wrap (BitVec.ofInt k.bits a ^^^ BitVec.ofInt k.bits b).toNat)) else R.fail
 | .andNot => if k = k' then pure (.int k (k.wrap (BitVec.ofInt k.bits a &&& ~~~ BitVec.ofInt k.bits b).toNat)) else R.fail
 | .eql => if k = k' then pure (.bool (a == b)) else R.fail
 | .neq => if k = k' then pure (.bool (a != b)) else R.fail
 | .lss => if k = k' then pure (.bool (a < b)) else R.fail
 | .leq => if k = k' then pure (.bool (a ≤ b)) else R.fail
 | .gtr => if k = k' then pure (.bool (a > b)) else R.fail
 | .geq => if k = k' then pure (.bool (a ≥ b)) else R.fail
 | .shl => do needG F Γ g (0 ≤ b); pure (.int k (k.wrap (a * 2 ^ (min b.toNat k.bits))))
 | .shr => do needG F Γ g (0 ≤ b); pure (.int k (a.fdiv (2 ^ (min b.toNat k.bits))))
def binST (g : Gd) (op : BinOp) (a b : List UInt8) : R TC :=
 match op with
 | .add => do needG F Γ g (a.length + b.length ≤ 9223372036854775807); pure (.str (a ++ b))
 | .eql => pure (.bool (a == b))
 | .neq => pure (.bool (!(a == b)))
 | .lss => pure (.bool (Op.bytesLess a b))
 | .leq => pure (.bool (Op.bytesLess a b || a == b))
 | .gtr => pure (.bool (!(Op.bytesLess a b || a == b)))
 | .geq => pure (.bool (!(Op.bytesLess a b)))
 | _ => R.fail
def optI (g : Gd) : Option Opd → R (Option Int)
 | none => pure none
 | some x => do let n ← useI F Γ g x; pure (some n)
def bndT (g : Gd) (n : Nat) (lo hi : Option Opd) : R (Option Int × Option Int) := do
 let h ← optI F Γ g hi
 let l ← optI F Γ g lo
 match l, h with
 | none, none => pure (l, h)
 | some a, none => do needG F Γ g (0 ≤ a ∧ a ≤ n); pure (l, h)
 | none, some b => do needG F Γ g (0 ≤ b ∧ b ≤ n); pure (l, h)
 | some a, some b => do needG F Γ g (0 ≤ a ∧ a ≤ b ∧ b ≤ n); pure (l, h)
def partsT (g : Gd) (cells : List TC) : List (Nat × Nat × Opd) → R (List TC)
 | [] => pure cells
 | (off, n, x) :: r => do
  let v ← useT F Γ g x
  match v with
  | .clo _ _ => R.fail
  | _ => if v.cells.length = n then partsT g (setT cells off v.cells) r else R.fail
def capsT (g : Gd) : List Opd → R (List TC)
 | [] => pure []
 | x :: r => do
  let a ← useO F Γ g x
  let l ← capsT g r
  pure (a :: l)
def TC.freeT : TC → Bool
 | .sl .brw _ _ _ => false
 | .sl _ tt _ _ => TT.freeT tt
 | .ref .. => false
 | .adr .. => false
 | .iadr .. => false
 | .iadrd .. => false
 | .dead => false
 | _ => true
where TT.freeT : TT → Bool
 | .leaf => true
 | .node .brw _ => false
 | .node _ e => TT.freeT e
 | .pair a b => TT.freeT a && TT.freeT b
def loadAdr (g : Gd) (agg : Bool) (n : Nat) (p : Place) (k i c : Nat) : TC → R TSV
 | .sl .own tt e' l => if e'.size = k ∧ c + n ≤ k then (do
   needG F Γ g (i < l.length)
   pure (mkT agg (peekC (fun j => ⟨p.root, p.path ++ [⟨i, k, c + j⟩]⟩) 0 (((e'.ex tt (l.getD i e'.dflt)).drop c).take n))))
  else R.fail
 | _ => R.fail
def loadT (g : Gd) (agg : Bool) (n : Nat) : TC → R TSV
 | .box b c => match TS.box F Γ b with
  | some l => if c + n ≤ l.length then pure (mkT agg (peekC (fun j => ⟨.obj b (c + j), []⟩) 0 ((l.drop c).take n))) else R.fail
  | none => R.fail
 | .boxd b c m i => match TS.box F Γ b with
  | some l => match selC ((l.drop c).take m) i with
   | some d => if n = 1 ∧ agg = false ∧ c + m ≤ l.length then (do needG F Γ g (i < m); pure (.one d)) else R.fail
   | none => R.fail
  | none => R.fail
 | .adr p _ e i c => do
  let d ← atR F Γ p
  loadAdr F Γ g agg n p e.size i c d
 | .iadr tt e l i c => if c + n ≤ e.size then (do
   needG F Γ g (i < l.length)
   pure (mkT agg (((e.ex tt (l.getD i e.dflt)).drop c).take n)))
  else R.fail
 | .iadrd tt e l i c m j => match selC (((e.ex tt (l.getD i e.dflt)).drop c).take m) j with
  | some d => if n = 1 ∧ agg = false ∧ c + m ≤ e.size then (do needG F Γ g (i < l.length ∧ j < m); pure (.one d)) else R.fail
  | none => R.fail
 | _ => R.fail
def refSl (p : Place) (tt : TT) (e : BT) (lo0 n : Nat) : Option Int → Option Int → TSV
 | none, none => .one (.ref p tt e (some (lo0, n)))
 | some a, none => .one (.ref p tt e (some (lo0 + a.toNat, n - a.toNat)))
 | none, some b => .one (.ref p tt e (some (lo0, b.toNat)))
 | some a, some b => .one (.ref p tt e (some (lo0 + a.toNat, b.toNat - a.toNat)))
def refSl0 (p : Place) (tt : TT) (e : BT) (n : Nat) : Option Int → Option Int → TSV
 | none, none => .one (.ref p tt e none)
 | some a, none => .one (.ref p tt e (some (a.toNat, n - a.toNat)))
 | none, some b => .one (.ref p tt e (some (0, b.toNat)))
 | some a, some b => .one (.ref p tt e (some (a.toNat, b.toNat - a.toNat)))
def slKR (g : Gd) (k : Nat) (lo hi : Option Opd) (p : Place) (tt : TT) (e : BT) : Option (Nat × Nat) → TC → R TSV
 | none, .sl .own _ _ l0 => if e.size = k then (do
   let (l, h) ← bndT F Γ g l0.length lo hi
   pure (refSl0 p tt e l0.length l h))
  else R.fail
 | some (lo0, n), .sl .own _ _ _ => if e.size = k then (do
   let (l, h) ← bndT F Γ g n lo hi
   pure (refSl p tt e lo0 n l h))
  else R.fail
 | _, _ => R.fail
def slKT (g : Gd) (k : Nat) (lo hi : Option Opd) : TC → R TSV
 | .ref p tt e w => do
  let d ← atR F Γ p
  slKR F Γ g k lo hi p tt e w d
 | .sl τ tt e l => if τ ≠ .own ∧ e.size = k then (do
   let (a, b) ← bndT F Γ g l.length lo hi
   pure (.one (.sl τ tt e (winL a b l))))
  else R.fail
 | .nil => do
  let _ ← bndT F Γ g 0 lo hi
  pure (.one .nil)
 | _ => R.fail
def ixAR (g : Gd) (k : Nat) (i : Int) (p : Place) (tt : TT) (e : BT) : Option (Nat × Nat) → TC → R TSV
 | none, .sl .own _ _ l => if e.size = k then (do needG F Γ g (0 ≤ i ∧ i < l.length); pure (.one (.adr p tt e i.toNat 0))) else R.fail
 | some (lo, n), .sl .own _ _ _ => if e.size = k then (do needG F Γ g (0 ≤ i ∧ i < n); pure (.one (.adr p tt e (lo + i.toNat) 0))) else R.fail
 | _, _ => R.fail
def ixAT (g : Gd) (k : Nat) (i : Int) : TC → R TSV
 | .ref p tt e w => do
  let d ← atR F Γ p
  ixAR F Γ g k i p tt e w d
 | .sl τ tt e l => if τ ≠ .own ∧ e.size = k then (do needG F Γ g (0 ≤ i ∧ i < l.length); pure (.one (.iadr tt e l i.toNat 0))) else R.fail
 | _ => R.fail
def ixArT (n k : Nat) (i : Int) : TC → R TSV
 | .box b c => if k = 1 then pure (.one (.boxd b c n i.toNat)) else R.fail
 | .iadr tt e l j c => if k = 1 then pure (.one (.iadrd tt e l j c n i.toNat)) else R.fail
 | _ => R.fail
def lenT : TC → R TC
 | .ref p _ _ none => do
  let d ← atR F Γ p
  match d with
  | .sl .own _ _ l => pure (.int .i64 l.length)
  | _ => R.fail
 | .ref _ _ _ (some (_, n)) => pure (.int .i64 n)
 | .sl _ _ _ l => pure (.int .i64 l.length)
 | .nil => pure (.int .i64 0)
 | _ => R.fail
def binT (g : Gd) (op : BinOp) : TC → TC → R TC
 | .int k a, .int k' b => binIT F Γ g op k k' a b
 | .str a, .str b => binST F Γ g op a b
 | _, _ => R.fail
def unT : UnOp → TC → R TC
 | .neg, .int k n => pure (.int k (k.wrap (0 - n)))
 | .xor, .int k n => pure (.int k (k.wrap (BitVec.ofInt k.bits (if k.signed then -1 else k.max) ^^^ BitVec.ofInt k.bits n).toNat))
 | .not, .bool b => pure (.bool !b)
 | _, _ => R.fail
def encL (n : Int) : List UInt8 := (Utf8.encode n).data.toList
def bytesT (w : Option (Nat × Nat)) : TC → R TC
 | .sl .own _ (.int .u8) l => (match w with
  | none => pure (.str (strOf l))
  | some (lo, n) => (do
   R.need (lo + n ≤ l.length)
   pure (.str (strOf ((l.drop lo).take n)))))
 | _ => R.fail
def convT : Cv → TC → R TC
 | .toInt k, .int _ n => pure (.int k (k.wrap n))
 | .ident, .str s => pure (.str s)
 | .ofInt, .int _ n => pure (.str (encL n))
 | .bytesToStr, .ref p _ (.int .u8) w => do
  let d ← atR F Γ p
  bytesT w d
 | .bytesToStr, .sl _ _ (.int .u8) l => pure (.str (strOf l))
 | .bytesToStr, .nil => pure (.str [])
 | _, _ => R.fail
def nilcT : TSV → R TSV
 | .one (.box b c) => pure (.one (.box b c))
 | .one (.boxd b c n i) => pure (.one (.boxd b c n i))
 | .one (.adr p tt e i c) => pure (.one (.adr p tt e i c))
 | .one (.iadr tt e l i c) => pure (.one (.iadr tt e l i c))
 | .clo f l => pure (.clo f l)
 | _ => R.fail
def fAddrT (off : Nat) : TC → R TSV
 | .box b c => pure (.one (.box b (c + off)))
 | .adr p tt e i c => pure (.one (.adr p tt e i (c + off)))
 | .iadr tt e l i c => pure (.one (.iadr tt e l i (c + off)))
 | _ => R.fail
def mmT (mx : Bool) : TC → TC → R TC
 | .int k a, .int _ b => pure (.int k (bif mx then (if b > a then b else a) else (if b < a then b else a)))
 | _, _ => R.fail
def slST (g : Gd) (lo hi : Option Opd) : TC → R TSV
 | .str s => do
  let (l, h) ← bndT F Γ g s.length lo hi
  pure (.one (.str (winL l h s)))
 | _ => R.fail
def ixST (g : Gd) (i : Int) : TC → R TSV
 | .str s => do
  needG F Γ g (0 ≤ i ∧ i < s.length)
  pure (.one (.int .u8 (s.getD i.toNat 0).toNat))
 | _ => R.fail
def lenST : TC → R TSV
 | .str s => pure (.one (.int .i64 s.length))
 | _ => R.fail
def effT (g : Gd) : AOp → R TSV
 | .mv x => useT F Γ g x
 | .pick c a b => match c with
  | .t n => do
   let cb ← useB F Γ g (.t n)
   let av ← useB F Γ ((n, true) :: g) a
   let bv ← useB F Γ ((n, false) :: g) b
   pure (.one (.bool (bif cb then av else bv)))
  | _ => R.fail
 | .build zero parts => do
  let l ← partsT F Γ g (zero.map constC) parts
  pure (.agg l)
 | .load agg n x => do
  let c ← useO F Γ g x
  loadT F Γ g agg n c
 | .nilc x => do
  let v ← useT F Γ g x
  nilcT v
 | .bin op x y => do
  let a ← useO F Γ g x
  let b ← useO F Γ g y
  let c ← binT F Γ g op a b
  pure (.one c)
 | .eqB ne x y => do
  let a ← useB F Γ g x
  let b ← useB F Γ g y
  pure (.one (.bool (bif ne then !(a == b) else (a == b))))
 | .eqA ne ks x y => do
  let l ← useA F Γ g x
  let m ← useA F Γ g y
  let b ← R.ofOpt (eqCs ks l m)
  pure (.one (.bool (bif ne then !b else b)))
 | .un op x => do
  let a ← useO F Γ g x
  let c ← unT op a
  pure (.one c)
 | .conv c x => do
  let a ← useO F Γ g x
  let c ← convT F Γ c a
  pure (.one c)
 | .slS x lo hi => do
  let c ← useO F Γ g x
  slST F Γ g lo hi c
 | .slK k x lo hi => do
  let c ← useO F Γ g x
  slKT F Γ g k lo hi c
 | .fAddr off x => do
  let c ← useO F Γ g x
  fAddrT off c
 | .fld agg off n x => do
  let l ← useA F Γ g x
  if off + n ≤ l.length then pure (mkT agg ((l.drop off).take n)) else R.fail
 | .ixA k x i => do
  let i ← useI F Γ g i
  let c ← useO F Γ g x
  ixAT F Γ g k i c
 | .ixAr n k x i => do
  let i ← useI F Γ g i
  needG F Γ g (0 ≤ i ∧ i < n)
  let c ← useO F Γ g x
  ixArT n k i c
 | .ixS x i => do
  let i ← useI F Γ g i
  let c ← useO F Γ g x
  ixST F Γ g i c
 | .ixV agg n k x i => do
  let i ← useI F Γ g i
  let l ← useA F Γ g x
  let d ← R.ofOpt (selC (l.take n) i.toNat)
  if k = 1 ∧ agg = false ∧ n ≤ l.length then (do needG F Γ g (0 ≤ i ∧ i < n); pure (.one d)) else R.fail
 | .lenK x => do
  let c ← useO F Γ g x
  let d ← lenT F Γ c
  pure (.one d)
 | .lenS x => do
  let c ← useO F Γ g x
  lenST c
 | .lenC n => pure (.one (.int .i64 n))
 | .mm mx x y => do
  let a ← useO F Γ g x
  let b ← useO F Γ g y
  let c ← mmT mx a b
  pure (.one c)
 | .mkf f caps => do
  let l ← capsT F Γ g caps
  if l.all TC.freeT then pure (.clo f l) else R.fail
 | _ => R.fail
end
end Go.VS
namespace Go.VS
theorem M.holds_pure' {α : Type} {a : α} {K : α → Prop} (h : K a) : (Pure.pure a : M α).holds K := by rw [M.holds_pure]; exact h
section
variable {μ : Nat → Nat} {ver : Root → Nat} {ln : Place → Option Nat} {F Γ : TS} {st : St}
theorem gv_iff : ∀ gd : Gd, gv F Γ gd = true ↔ ∀ p ∈ gd, slotB F Γ p.1 = some p.2
 | [] => by simp [gv]
 | (t, w) :: r => by
  simp only [gv, Bool.and_eq_true, gv_iff r, List.forall_mem_cons]
  refine and_congr ?_ Iff.rfl
  cases slotB F Γ t <;> simp
theorem gsub_spec {gd g : Gd} (h : gsub gd g = true) (hg : gv F Γ g = true) : gv F Γ gd = true := by
 rw [gv_iff] at hg ⊢
 intro p hp
 have h1 := List.all_eq_true.1 h p hp
 obtain ⟨q, hq, h2⟩ := List.any_eq_true.1 h1
 simp only [Bool.and_eq_true] at h2
 have := hg q hq
 rw [Nat.eq_of_beq_eq_true h2.1, this]
 obtain ⟨_, h3⟩ := h2
 cases hp2 : p.2 <;> cases hq2 : q.2 <;> simp_all
theorem gimp_spec : ∀ {g : Gd} {p : Prop}, gimp F Γ g p → gv F Γ g = true → p
 | [], p, h, _ => h
 | (t, w) :: r, p, h, hg => by
  simp only [gimp] at h
  simp only [gv, Bool.and_eq_true] at hg
  cases hs : slotB F Γ t with
  | none => rw [hs] at hg; simp at hg
  | some b =>
   rw [hs] at h hg
   simp only [beq_iff_eq] at hg
   exact gimp_spec (h hg.1) hg.2
theorem needG_spec {g : Gd} {p : Prop} {u : Unit} (h : (needG F Γ g p).ok u) (hg : gv F Γ g = true) : p := gimp_spec (R.ok_need.1 h) hg
theorem constC_av (v : Value) : (constC v).av μ ver ln (.lit v) := by
 unfold constC
 split
 ·rfl
 ·rfl
 ·rename_i s; simp [TC.av]
 ·rfl
 ·rfl
theorem atC_atS : ∀ (p : List Stp) {c d : TC}, (atC c p).ok d → c.atS p = some d
 | [], c, d, h => by
  have h : (Pure.pure c : R TC).ok d := by cases c <;> first | exact h | (rename_i τ _ _ _; cases τ <;> exact h)
  rw [R.ok_pure] at h
  subst h
  cases c <;> first | rfl | (rename_i τ _ _ _; cases τ <;> rfl)
 | s :: r, c, d, h => by
  cases c with
  | sl τ tt e l =>
   cases τ with
   | own =>
    simp only [atC] at h
    split at h
    case isFalse => exact (R.ok_fail.1 h).elim
    rename_i hk
    rw [R.ok_bind] at h
    obtain ⟨_, h1, h⟩ := h
    have hi := R.ok_need.1 h1
    split at h
    case h_2 => exact (R.ok_fail.1 h).elim
    rename_i c' hc
    have := atC_atS r h
    simp only [TC.atS, if_pos hk]
    rw [List.getElem?_eq_getElem hi]
    have e1 : l.getD s.i e.dflt = l[s.i] := by simp [List.getD_eq_getElem?_getD, List.getElem?_eq_getElem hi]
    rw [e1] at hc
    simp [hc, this]
   | _ => exact (R.ok_fail.1 h).elim
  | _ => exact (R.ok_fail.1 h).elim
theorem atS_av : ∀ (p : List Stp) {c d : TC} {a : AV}, c.atS p = some d → c.av μ ver ln a → ∃ b, a.at p = some b ∧ d.av μ ver ln b
 | [], c, d, a, h, ha => by
  have h : c = d := by cases c <;> first | exact Option.some.inj h | (rename_i τ _ _ _; cases τ <;> exact Option.some.inj h)
  subst h
  exact ⟨a, by cases a <;> rfl, ha⟩
 | s :: r, c, d, a, h, ha => by
  cases c with
  | sl τ tt e l =>
   cases τ with
   | own =>
    simp only [TC.atS] at h
    split at h
    case isFalse => cases h
    rename_i hk
    rw [Option.bind_eq_some_iff] at h
    obtain ⟨c', hx, h⟩ := h
    rw [Option.bind_eq_some_iff] at hx
    obtain ⟨x, hx, hc⟩ := hx
    obtain ⟨a', ha', hav⟩ := avs_get (ex_av (μ := μ) (ver := ver) (ln := ln) e tt x) hc
    obtain ⟨b, hb, hbv⟩ := atS_av r h hav
    refine ⟨b, ?_, hbv⟩
    have ha : a = .sl .own e.size (l.map (e.enc tt)) := ha
    subst ha
    simp only [AV.at, if_pos hk, List.getElem?_map, hx, Option.map_some, Option.bind_some, ha', hb]
   | _ => simp [TC.atS] at h
  | _ => simp [TC.atS] at h
theorem atS_append : ∀ (p q : List Stp) (c : TC), c.atS (p ++ q) = (c.atS p).bind (·.atS q)
 | [], q, c => by cases c <;> first | rfl | (rename_i τ _ _ _; cases τ <;> rfl)
 | s :: r, q, c => by
  cases c with
  | sl τ tt e l =>
   cases τ with
   | own =>
    simp only [List.cons_append, TC.atS]
    split
    ·cases hx : l[s.i]? with
     | none => simp
     | some x =>
      simp only [Option.bind_some]
      cases hc : (e.ex tt x)[s.c]? with
      | none => simp
      | some c' => simp [atS_append r q c']
    ·rfl
   | _ => rfl
  | _ => rfl
variable (h : Sim μ F Γ st)
include h
theorem root_sim {r : Root} {c : TC} (hr : rootT F Γ r = some c) : ∃ a, st.root (r.mu μ) = some a ∧ c.av μ st.ver (lnT F Γ) a := by
 cases r with
 | slot t j =>
  simp only [rootT] at hr
  split at hr
  case h_2 => cases hr
  rename_i v hv
  obtain ⟨s, hs, hsv⟩ := h.sl t _ hv
  simp only [gv] at hs
  cases v with
  | one c0 =>
   obtain ⟨a, rfl, ha⟩ := hsv
   simp only [TSV.cells] at hr
   cases j with
   | zero => simp at hr; subst hr; exact ⟨a, by simp [Root.mu, St.root, hs, TV.cell, SV.cells], ha⟩
   | succ j => simp at hr
  | agg l =>
   obtain ⟨k, rfl, ha⟩ := hsv
   obtain ⟨a, h1, h2⟩ := avs_get ha hr
   exact ⟨a, by simp [Root.mu, St.root, hs, TV.cell, SV.cells, h1], h2⟩
  | clo f l => simp [TSV.cells] at hr
 | obj b c0 =>
  simp only [rootT] at hr
  rw [Option.bind_eq_some_iff] at hr
  obtain ⟨l, hl, hc⟩ := hr
  obtain ⟨k, q1, q2, _⟩ := h.bx b l hl
  obtain ⟨a, h1, h2⟩ := avs_get q2 hc
  exact ⟨a, by simp [Root.mu, St.root, q1, h1], h2⟩
theorem at_sim {p : Place} {d : TC} (hp : atT F Γ p = some d) : ∃ a, st.at (p.mu μ) = some a ∧ d.av μ st.ver (lnT F Γ) a := by
 unfold atT at hp
 rw [Option.bind_eq_some_iff] at hp
 obtain ⟨c, hc, hp⟩ := hp
 obtain ⟨a, ha, hav⟩ := root_sim h hc
 obtain ⟨b, hb, hbv⟩ := atS_av p.path hp hav
 exact ⟨b, by simp only [St.at, Place.mu, ha, Option.bind_some, hb], hbv⟩
omit h in
theorem atR_atT {p : Place} {d : TC} (hp : (atR F Γ p).ok d) : atT F Γ p = some d := by
 unfold atR at hp
 unfold atT
 split at hp
 ·rename_i c hc; rw [hc, Option.bind_some]; exact atC_atS p.path hp
 ·exact (R.ok_fail.1 hp).elim
theorem own_sim {p : Place} {tt : TT} {e : BT} {l : List e.D} (hp : (atR F Γ p).ok (.sl .own tt e l)) : st.at (p.mu μ) = some (.sl .own e.size (l.map (e.enc tt))) ∧ lnT F Γ p = some l.length := by
 have h1 := atR_atT hp
 obtain ⟨a, h2, h3⟩ := at_sim h h1
 have h3 : a = _ := h3
 subst h3
 exact ⟨h2, by simp [lnT, h1, TC.len?]⟩
omit h in
theorem peek1_av {p : Place} {c : TC} {a : AV} (ha : c.av μ ver ln a) (hl : ∀ τ tt e l, c = .sl τ tt e l → ∀ n, ln p = some n → n = l.length) :
  (peek1 p c).av μ ver ln (seen (fun k n => .ref (p.mu μ) (ver (p.mu μ).root) k 0 n) a) := by
 cases c with
 | sl τ tt e l =>
  have ha : a = _ := ha
  subst ha
  cases τ with
  | own =>
   exact ⟨_, rfl, fun n hn => by rw [hl _ _ _ _ rfl n hn]; simp⟩
  | imm => exact rfl
  | brw => exact rfl
 | dead => exact trivial
 | ref p' tt e w =>
  cases w with
  | none =>
   obtain ⟨m, rfl, hm⟩ := ha
   exact ⟨m, rfl, hm⟩
  | some x => obtain ⟨lo, n⟩ := x; simp only [TC.av] at ha; subst ha; exact rfl
 | _ => first | (have ha : a = _ := ha; subst ha; exact rfl) | (simp only [TC.av] at ha; subst ha; exact rfl)
omit h in
theorem peekC_av {mk : Nat → Place} {mkA : Nat → Nat → Nat → AV} (hmk : ∀ j k n, mkA j k n = .ref ((mk j).mu μ) (ver ((mk j).mu μ).root) k 0 n) :
  ∀ {cs : List TC} {as : List AV} (j : Nat), avs μ ver ln cs as → (∀ i τ tt e l, cs[i]? = some (.sl τ tt e l) → ∀ n, ln (mk (j + i)) = some n → n = l.length) → avs μ ver ln (peekC mk j cs) (peekFrom mkA j as)
 | [], [], j, _, _ => trivial
 | c :: cs, a :: as, j, ha, hl => by
  refine ⟨?_, peekC_av hmk (j + 1) ha.2 (fun i τ tt e l hi n hn => hl (i + 1) τ tt e l (by simpa using hi) n (by rw [show j + (i + 1) = j + 1 + i by omega]; exact hn))⟩
  have := peek1_av (p := mk j) ha.1 (fun τ tt e l hc n hn => hl 0 τ tt e l (by simp [hc]) n (by simpa using hn))
  have e : seen (fun k n => .ref ((mk j).mu μ) (ver ((mk j).mu μ).root) k 0 n) a = (match (generalizing := false) a with | .sl .own k xs => mkA j k xs.length | a => a) := by
   cases a with
   | sl τ k xs => cases τ <;> simp only [seen, hmk]
   | _ => rfl
  rw [e] at this
  exact this
 | [], _ :: _, _, ha, _ => ha.elim
 | _ :: _, [], _, ha, _ => ha.elim
omit h in
theorem peekM_av {mk : Nat → Place} {mkA : Nat → Nat → Nat → AV} (hmk : ∀ j k n, mkA j k n = .ref ((mk j).mu μ) (ver ((mk j).mu μ).root) k 0 n) :
  ∀ {cs : List TC} {as : List AV} (j : Nat), avs μ ver ln cs as → cs.all TC.solidT = true → (∀ i τ tt e l, cs[i]? = some (.sl τ tt e l) → ∀ n, ln (mk (j + i)) = some n → n = l.length) → avs μ ver ln (peekC mk j cs) (peekMem mkA j as)
 | [], [], j, _, _, _ => trivial
 | c :: cs, a :: as, j, ha, hs, hl => by
  simp only [List.all_cons, Bool.and_eq_true] at hs
  refine ⟨?_, peekM_av hmk (j + 1) ha.2 hs.2 (fun i τ tt e l hi n hn => hl (i + 1) τ tt e l (by simpa using hi) n (by rw [show j + (i + 1) = j + 1 + i by omega]; exact hn))⟩
  have := peek1_av (p := mk j) ha.1 (fun τ tt e l hc n hn => hl 0 τ tt e l (by simp [hc]) n (by simpa using hn))
  have e : (∃ p v k lo n, a = .ref p v k lo n) ∨ (∃ p v k i n, a = .adr p v k i n) ∨ seen (fun k n => .ref ((mk j).mu μ) (ver ((mk j).mu μ).root) k 0 n) a = (match (generalizing := false) a with | .sl .own k xs => mkA j k xs.length | a => noRef a) := by
   cases a with
   | sl τ k xs => cases τ <;> simp only [seen, hmk, noRef] <;> simp
   | ref p v k lo n => exact .inl ⟨_, _, _, _, _, rfl⟩
   | adr p v k i n => exact .inr (.inl ⟨_, _, _, _, _, rfl⟩)
   | _ => exact .inr (.inr rfl)
  rcases e with ⟨p, v, k, lo, n, rfl⟩ | ⟨p, v, k, i, n, rfl⟩ | e
  ·cases c with
   | ref => simp [TC.solidT] at hs
   | dead => exact trivial
   | adr => simp [TC.solidT] at hs
   | _ => exfalso; have h0 := ha.1; simp [TC.av] at h0
  ·cases c with
   | adr => simp [TC.solidT] at hs
   | dead => exact trivial
   | ref => simp [TC.solidT] at hs
   | _ => exfalso; have h0 := ha.1; simp [TC.av] at h0
  ·rw [e] at this
   exact this
 | [], _ :: _, _, ha, _, _ => ha.elim
 | _ :: _, [], _, ha, _, _ => ha.elim
omit h in
theorem ex_solid : ∀ (t : BT) (tt : TT) (x : t.D), (t.ex tt x).all TC.solidT = true
 | .int _, _, _ => rfl
 | .bool, _, _ => rfl
 | .str, _, _ => rfl
 | .unit, _, _ => rfl
 | .sl _, _, _ => rfl
 | .pair a b, tt, x => by simp only [BT.ex, List.all_append, ex_solid a, ex_solid b, Bool.and_self]
theorem use_sim {g : Gd} {b : Bool} (hg : b = true → gv F Γ g = true) {x : Opd} {v : TSV} (hx : (useT F Γ g x).ok v) : (st.use b x).holds fun s => v.sv μ st.ver (lnT F Γ) s := by
 cases x with
 | c u =>
  simp only [useT] at hx
  rw [R.ok_pure] at hx
  subst hx
  simp only [St.use]
  exact M.holds_pure' ⟨_, rfl, constC_av u⟩
 | f nm =>
  simp only [useT] at hx
  rw [R.ok_pure] at hx
  subst hx
  simp only [St.use]
  exact M.holds_pure' ⟨[], rfl, trivial⟩
 | t n =>
  simp only [useT] at hx
  split at hx
  case h_2 => exact (R.ok_fail.1 hx).elim
  rename_i gd v0 hs
  cases hsub : gsub gd g with
  | false => rw [hsub] at hx; exact (R.ok_fail.1 hx).elim
  | true =>
   rw [hsub] at hx
   have hx := R.ok_pure.1 hx
   subst hx
   obtain ⟨s, heq, hv⟩ := h.sl n _ hs
   simp only [St.use, heq, M.holds_bind, M.holds_need]
   refine ⟨fun hb => gsub_spec hsub (hg hb), M.holds_pure' ?_⟩
   have hroot : ∀ (j : Nat) (τ tt e l), v0.cells[j]? = some (.sl τ tt e l) → ∀ m, lnT F Γ ⟨.slot n j, []⟩ = some m → m = l.length := by
    intro j τ tt e l hj m hm
    simp only [lnT, atT, rootT, hs] at hm
    cases gd with
    | nil =>
     simp only [hj, Option.bind_some] at hm
     have e1 : (TC.sl τ tt e l).atS [] = some (TC.sl τ tt e l) := by cases τ <;> rfl
     rw [e1] at hm
     simpa [TC.len?] using hm.symm
    | cons q gd => simp at hm
   clear hsub
   cases v0 with
   | one c =>
    obtain ⟨a, rfl, ha⟩ := hv
    refine ⟨_, rfl, ?_⟩
    have := peek1_av (p := ⟨.slot n 0, []⟩) ha (fun τ tt e l hc m hm => hroot 0 τ tt e l (by simp [TSV.cells, hc]) m hm)
    have e : seen (fun k m => .ref ((⟨.slot n 0, []⟩ : Place).mu μ) (st.ver ((⟨.slot n 0, []⟩ : Place).mu μ).root) k 0 m) a = (match (generalizing := false) a with | .sl .own k xs => (.ref ⟨.slot n 0, []⟩ (st.vs n) k 0 xs.length) | a => a) := by
     cases a with
     | sl τ k xs => cases τ <;> rfl
     | _ => rfl
    rw [e] at this
    exact this
   | agg l =>
    obtain ⟨k, rfl, ha⟩ := hv
    exact ⟨_, rfl, peekC_av (mk := fun j => ⟨.slot n j, []⟩) (fun j k n' => rfl) 0 ha (fun i τ tt e l' hi m hm => hroot i τ tt e l' hi m (by simpa using hm))⟩
   | clo f l => obtain ⟨k, rfl, ha⟩ := hv; exact ⟨k, rfl, ha⟩
theorem useO_sim {g : Gd} {b : Bool} (hg : b = true → gv F Γ g = true) {x : Opd} {c : TC} (hx : (useO F Γ g x).ok c) : (st.useOne b x).holds fun a => c.av μ st.ver (lnT F Γ) a := by
 unfold useO at hx
 rw [R.ok_bind] at hx
 obtain ⟨v, h1, h2⟩ := hx
 split at h2
 case h_2 => exact (R.ok_fail.1 h2).elim
 rename_i c'
 obtain rfl := R.ok_pure.1 h2
 unfold St.useOne
 rw [M.holds_bind]
 refine M.holds_mono (use_sim h hg h1) fun s hs => ?_
 obtain ⟨a, rfl, ha⟩ := hs
 exact M.holds_pure' ha
theorem useI_sim {g : Gd} {b : Bool} (hg : b = true → gv F Γ g = true) {x : Opd} {n : Int} (hx : (useI F Γ g x).ok n) : (st.useInt b x).holds (· = n) := by
 unfold useI at hx
 rw [R.ok_bind] at hx
 obtain ⟨v, h1, h2⟩ := hx
 split at h2
 case h_2 => exact (R.ok_fail.1 h2).elim
 rename_i k c'
 obtain rfl := R.ok_pure.1 h2
 unfold St.useInt
 rw [M.holds_bind]
 refine M.holds_mono (use_sim h hg h1) fun s hs => ?_
 obtain ⟨a, rfl, ha⟩ := hs
 have ha : a = _ := ha
 subst ha
 exact M.holds_pure' rfl
theorem useB_sim {g : Gd} {b : Bool} (hg : b = true → gv F Γ g = true) {x : Opd} {n : Bool} (hx : (useB F Γ g x).ok n) : (st.useBool b x).holds (· = n) := by
 unfold useB at hx
 rw [R.ok_bind] at hx
 obtain ⟨v, h1, h2⟩ := hx
 split at h2
 case h_2 => exact (R.ok_fail.1 h2).elim
 rename_i c'
 obtain rfl := R.ok_pure.1 h2
 unfold St.useBool
 rw [M.holds_bind]
 refine M.holds_mono (use_sim h hg h1) fun s hs => ?_
 obtain ⟨a, rfl, ha⟩ := hs
 have ha : a = _ := ha
 subst ha
 exact M.holds_pure' rfl
theorem useA_sim {g : Gd} {b : Bool} (hg : b = true → gv F Γ g = true) {x : Opd} {l : List TC} (hx : (useA F Γ g x).ok l) : (st.use b x).holds fun s => ∃ m, s = .agg m ∧ avs μ st.ver (lnT F Γ) l m := by
 unfold useA at hx
 rw [R.ok_bind] at hx
 obtain ⟨v, h1, h2⟩ := hx
 split at h2
 case h_2 => exact (R.ok_fail.1 h2).elim
 rename_i c'
 obtain rfl := R.ok_pure.1 h2
 exact use_sim h hg h1
end
end Go.VS
namespace Go.VS
section
variable {μ : Nat → Nat} {ver : Root → Nat} {ln : Place → Option Nat} {F Γ : TS} {st : St}
theorem avs_sub {cs : List TC} {as : List AV} (h : avs μ ver ln cs as) (c n : Nat) : avs μ ver ln ((cs.drop c).take n) ((as.drop c).take n) := avs_take (avs_drop h c) n
theorem mk_sv {cs : List TC} {as : List AV} (agg : Bool) (h : avs μ ver ln cs as) : (mkT agg cs).sv μ ver ln (mkSV agg as) := by
 cases agg with
 | true => exact ⟨as, rfl, h⟩
 | false =>
  refine ⟨as.headD .dead, rfl, ?_⟩
  match cs, as, h with
  | [], [], _ => exact trivial
  | c :: cs, a :: as, h => exact h.1
theorem avs_noRef : ∀ {cs : List TC} {as : List AV}, cs.all TC.solidT = true → avs μ ver ln cs as → avs μ ver ln cs (as.map noRef)
 | [], [], _, _ => trivial
 | c :: cs, a :: as, hs, h => by
  simp only [List.all_cons, Bool.and_eq_true] at hs
  refine ⟨?_, avs_noRef hs.2 h.2⟩
  have h1 := h.1
  cases a with
  | ref => cases c <;> first | exact trivial | (exfalso; simp [TC.av] at h1; done) | (exfalso; have h2 := hs.1; simp [TC.solidT] at h2)
  | adr => cases c <;> first | exact trivial | (exfalso; simp [TC.av] at h1; done) | (exfalso; have h2 := hs.1; simp [TC.solidT] at h2)
  | _ => exact h1
 | [], _ :: _, _, h => h.elim
 | _ :: _, [], _, h => h.elim
theorem all_take_drop {l : List TC} (h : l.all TC.solidT = true) (c n : Nat) : ((l.drop c).take n).all TC.solidT = true := by
 rw [List.all_eq_true] at h ⊢
 intro x hx
 exact h x (List.mem_of_mem_drop (List.mem_of_mem_take hx))
theorem selI_spec : ∀ {l : List TC} {k : IntKind} {ns : List Int}, selI l = some (k, ns) → ∀ i, i < l.length → l[i]? = some (.int k (ns.getD i 0))
 | [], k, ns, h, i, hi => by cases h
 | [c], k, ns, h, i, hi => by
  cases c with
  | int k' n =>
   simp only [selI, Option.some.injEq, Prod.mk.injEq] at h
   obtain ⟨rfl, rfl⟩ := h
   obtain rfl : i = 0 := by simpa using hi
   rfl
  | _ => cases h
 | c :: d :: l, k, ns, h, i, hi => by
  cases c with
  | int k' n =>
   simp only [selI] at h
   split at h
   case h_2 => cases h
   rename_i k2 ns2 h2
   split at h
   case isFalse => cases h
   rename_i hk
   subst hk
   simp only [Option.some.injEq, Prod.mk.injEq] at h
   obtain ⟨rfl, rfl⟩ := h
   cases i with
   | zero => rfl
   | succ i => simpa using selI_spec h2 i (by simpa using hi)
  | _ => cases h
theorem selS_spec : ∀ {l : List TC} {ns : List (List UInt8)}, selS l = some ns → ∀ i, i < l.length → l[i]? = some (.str (ns.getD i []))
 | [], ns, h, i, hi => by simp at hi
 | c :: l, ns, h, i, hi => by
  cases c with
  | str s =>
   simp only [selS] at h
   split at h
   case h_2 => cases h
   rename_i ns2 h2
   simp only [Option.some.injEq] at h
   subst h
   cases i with
   | zero => rfl
   | succ i => simpa using selS_spec h2 i (by simpa using hi)
  | _ => cases h
theorem selC_spec {l : List TC} {i : Nat} {d : TC} (h : selC l i = some d) (hi : i < l.length) : l[i]? = some d := by
 unfold selC at h
 split at h
 ·rename_i k ns hs
  cases h
  exact selI_spec hs i hi
 ·split at h
  ·rename_i ns hs
   cases h
   exact selS_spec hs i hi
  ·cases h
theorem setT_avs : ∀ {vs : List TC} {as : List AV} {cs : List TC} {l : List AV} (c : Nat), avs μ ver ln cs l → avs μ ver ln vs as → avs μ ver ln (setT cs c vs) (setCells l c as)
 | [], [], cs, l, c, h, _ => h
 | v :: vs, a :: as, cs, l, c, h, hv => setT_avs (c + 1) (avs_set h c hv.1) hv.2
 | [], _ :: _, _, _, _, _, h => h.elim
 | _ :: _, [], _, _, _, _, h => h.elim
theorem eqC_spec {k : CK} {c d : TC} {r : Bool} (h : eqC k c d = some r) {a b : AV} (ha : c.av μ ver ln a) (hb : d.av μ ver ln b) : eqCell k a b = some r := by
 unfold eqC at h
 split at h
 ·have ha : a = _ := ha
  have hb : b = _ := hb
  subst ha; subst hb
  exact h
 ·have ha : a = _ := ha
  have hb : b = _ := hb
  subst ha; subst hb
  simp only [eqCell]
  simpa using h
 ·have ha : a = _ := ha
  have hb : b = _ := hb
  subst ha; subst hb
  exact h
 ·cases h
theorem eqCs_spec : ∀ {ks : List CK} {l m : List TC} {r : Bool}, eqCs ks l m = some r → ∀ {a b : List AV}, avs μ ver ln l a → avs μ ver ln m b → eqCells ks a b = some r
 | [], [], [], r, h, [], [], _, _ => h
 | k :: ks, c :: l, d :: m, r, h, a :: as, b :: bs, ha, hb => by
  simp only [eqCs] at h
  split at h
  case h_2 => cases h
  rename_i x y h1 h2
  simp only [eqCells, eqC_spec h1 ha.1 hb.1, eqCs_spec h2 ha.2 hb.2]
  exact h
 | [], [], [], _, _, [], _ :: _, _, h => h.elim
 | [], [], [], _, _, _ :: _, _, h, _ => h.elim
 | [], _ :: _, _, _, h, _, _, _, _ => by cases h
 | [], [], _ :: _, _, h, _, _, _, _ => by cases h
 | _ :: _, [], _, _, h, _, _, _, _ => by cases h
 | _ :: _, _ :: _, [], _, h, _, _, _, _ => by cases h
 | _ :: _, _ :: _, _ :: _, _, _, [], _, h, _ => h.elim
 | _ :: _, _ :: _, _ :: _, _, _, _ :: _, [], _, h => h.elim
theorem binI_spec {g : Gd} (hg : gv F Γ g = true) {op : BinOp} {k k' : IntKind} {x y : Int} {c : TC} (h : (binIT F Γ g op k k' x y).ok c) :
  ∃ p v, binV op (.int k x) (.int k' y) true = some (p, v) ∧ p ∧ c.av μ ver ln (.lit v) := by
 unfold binIT at h
 cases op <;> simp only [binV] at h ⊢
 case shl => rw [R.ok_bind] at h; obtain ⟨_, h1, h⟩ := h; obtain rfl := R.ok_pure.1 h; exact ⟨_, _, rfl, fun _ => needG_spec h1 hg, rfl⟩
 case shr => rw [R.ok_bind] at h; obtain ⟨_, h1, h⟩ := h; obtain rfl := R.ok_pure.1 h; exact ⟨_, _, rfl, fun _ => needG_spec h1 hg, rfl⟩
 case quo =>
  split at h
  case isFalse => exact (R.ok_fail.1 h).elim
  rename_i hk
  rw [R.ok_bind] at h; obtain ⟨_, h1, h⟩ := h; obtain rfl := R.ok_pure.1 h
  exact ⟨_, _, if_pos hk, fun _ => needG_spec h1 hg, rfl⟩
 case rem =>
  split at h
  case isFalse => exact (R.ok_fail.1 h).elim
  rename_i hk
  rw [R.ok_bind] at h; obtain ⟨_, h1, h⟩ := h; obtain rfl := R.ok_pure.1 h
  exact ⟨_, _, if_pos hk, fun _ => needG_spec h1 hg, rfl⟩
 all_goals
  split at h
  case isFalse => exact (R.ok_fail.1 h).elim
  rename_i hk
  obtain rfl := R.ok_pure.1 h
  exact ⟨_, _, if_pos hk, trivial, rfl⟩
theorem binS_spec {g : Gd} (hg : gv F Γ g = true) {op : BinOp} {x y : List UInt8} {c : TC} (h : (binST F Γ g op x y).ok c) :
  ∃ p v, binV op (.string ⟨x.toArray⟩) (.string ⟨y.toArray⟩) true = some (p, v) ∧ p ∧ c.av μ ver ln (.lit v) := by
 unfold binST at h
 cases op <;> simp only [binV] at h ⊢
 case add =>
  rw [R.ok_bind] at h; obtain ⟨_, h1, h⟩ := h; obtain rfl := R.ok_pure.1 h
  refine ⟨_, _, rfl, fun _ => ?_, ?_⟩
  ·have := needG_spec h1 hg
   simpa [ByteArray.size] using this
  ·simp [TC.av]
 all_goals first
  | (exact (R.ok_fail.1 h).elim; done)
  | (obtain rfl := R.ok_pure.1 h; exact ⟨_, _, rfl, trivial, by simp [TC.av]⟩)
theorem binT_spec {g : Gd} (hg : gv F Γ g = true) {op : BinOp} {x y c : TC} (h : (binT F Γ g op x y).ok c) {a b : AV} (ha : x.av μ ver ln a) (hb : y.av μ ver ln b) :
  ∃ u w p v, a = .lit u ∧ b = .lit w ∧ binV op u w true = some (p, v) ∧ p ∧ c.av μ ver ln (.lit v) := by
 unfold binT at h
 split at h
 ·obtain ⟨p, v, h1, h2, h3⟩ := binI_spec (μ := μ) (ver := ver) (ln := ln) hg h
  exact ⟨_, _, p, v, ha, hb, h1, h2, h3⟩
 ·obtain ⟨p, v, h1, h2, h3⟩ := binS_spec (μ := μ) (ver := ver) (ln := ln) hg h
  exact ⟨_, _, p, v, ha, hb, h1, h2, h3⟩
 ·exact (R.ok_fail.1 h).elim
def loN : Option Int → Nat
 | none => 0
 | some a => a.toNat
def hiN (n : Nat) : Option Int → Nat
 | none => n
 | some b => b.toNat
variable (h : Sim μ F Γ st)
include h
theorem optI_sim {g : Gd} (hg : gv F Γ g = true) {x : Option Opd} {r : Option Int} (hx : (optI F Γ g x).ok r) : (x = none ∧ r = none) ∨ ∃ y n, x = some y ∧ r = some n ∧ (st.useInt true y).holds (· = n) := by
 cases x with
 | none => simp only [optI] at hx; exact .inl ⟨rfl, (R.ok_pure.1 hx).symm⟩
 | some y =>
  simp only [optI] at hx
  rw [R.ok_bind] at hx
  obtain ⟨n, h1, h2⟩ := hx
  exact .inr ⟨y, n, rfl, (R.ok_pure.1 h2).symm, useI_sim h (fun _ => hg) h1⟩
theorem bnd_sim {g : Gd} (hg : gv F Γ g = true) {n : Nat} {lo hi : Option Opd} {l r : Option Int} (hx : (bndT F Γ g n lo hi).ok (l, r)) :
  (boundsOf st true n lo hi).holds (· = (loN l, hiN n r)) ∧ loN l ≤ hiN n r ∧ hiN n r ≤ n := by
 unfold bndT at hx
 rw [R.ok_bind] at hx
 obtain ⟨r', h1, hx⟩ := hx
 rw [R.ok_bind] at hx
 obtain ⟨l', h2, hx⟩ := hx
 have key : l' = l ∧ r' = r ∧ (∀ b, r = some b → 0 ≤ b ∧ b ≤ n) ∧ (∀ a, l = some a → 0 ≤ a ∧ a ≤ hiN n r) := by
  split at hx
  ·have := R.ok_pure.1 hx; cases this; exact ⟨rfl, rfl, by simp, by simp⟩
  ·rw [R.ok_bind] at hx
   obtain ⟨_, h3, hx⟩ := hx
   have := R.ok_pure.1 hx
   cases this
   have h4 := needG_spec h3 hg
   exact ⟨rfl, rfl, by simp, by intro a ha; cases ha; exact h4⟩
  ·rw [R.ok_bind] at hx
   obtain ⟨_, h3, hx⟩ := hx
   have := R.ok_pure.1 hx
   cases this
   have h4 := needG_spec h3 hg
   exact ⟨rfl, rfl, by intro a ha; cases ha; exact h4, by simp⟩
  ·rw [R.ok_bind] at hx
   obtain ⟨_, h3, hx⟩ := hx
   have := R.ok_pure.1 hx
   cases this
   obtain ⟨q1, q2, q3⟩ := needG_spec h3 hg
   exact ⟨rfl, rfl, by intro a ha; cases ha; exact ⟨by omega, q3⟩, by intro a ha; cases ha; exact ⟨q1, by simp only [hiN]; omega⟩⟩
 obtain ⟨rfl, rfl, k1, k2⟩ := key
 have hh : (hiOf st true n hi).holds (· = hiN n r') := by
  rcases optI_sim h hg h1 with ⟨rfl, rfl⟩ | ⟨y, b, rfl, rfl, hb⟩
  ·exact M.holds_pure' rfl
  ·simp only [hiOf, M.holds_bind]
   refine M.holds_mono hb ?_
   rintro _ rfl
   rw [M.holds_need]
   obtain ⟨q1, q2⟩ := k1 _ rfl
   exact ⟨fun _ => ⟨q1, by omega⟩, M.holds_pure' rfl⟩
 have hl : (loOf st true (hiN n r') lo).holds (· = loN l') := by
  rcases optI_sim h hg h2 with ⟨rfl, rfl⟩ | ⟨y, b, rfl, rfl, hb⟩
  ·exact M.holds_pure' rfl
  ·simp only [loOf, M.holds_bind]
   refine M.holds_mono hb ?_
   rintro _ rfl
   rw [M.holds_need]
   obtain ⟨q1, q2⟩ := k2 _ rfl
   exact ⟨fun _ => ⟨q1, by omega⟩, M.holds_pure' rfl⟩
 refine ⟨?_, ?_, ?_⟩
 ·simp only [boundsOf, M.holds_bind]
  refine M.holds_mono hh ?_
  rintro _ rfl
  refine M.holds_mono hl ?_
  rintro _ rfl
  exact M.holds_pure' rfl
 ·cases l' with
  | none => exact Nat.zero_le _
  | some a => obtain ⟨q1, q2⟩ := k2 a rfl; simp only [loN]; omega
 ·cases r' with
  | none => exact Nat.le_refl _
  | some b => obtain ⟨q1, q2⟩ := k1 b rfl; simp only [hiN]; omega
theorem parts_sim {g : Gd} (hg : gv F Γ g = true) : ∀ {ps : List (Nat × Nat × Opd)} {cells r : List TC} {as : List AV}, (partsT F Γ g cells ps).ok r → avs μ st.ver (lnT F Γ) cells as → (partsAt st true as ps).holds fun l => avs μ st.ver (lnT F Γ) r l
 | [], cells, r, as, hx, ha => by
  simp only [partsT] at hx
  obtain rfl := R.ok_pure.1 hx
  simp only [partsAt]
  exact M.holds_pure' ha
 | (off, n, x) :: ps, cells, r, as, hx, ha => by
  simp only [partsT] at hx
  rw [R.ok_bind] at hx
  obtain ⟨v, h1, hx⟩ := hx
  simp only [partsAt, M.holds_bind]
  refine M.holds_mono (use_sim h (fun _ => hg) h1) fun s hs => ?_
  have key : ∀ l : List TC, avs μ st.ver (lnT F Γ) l s.cells → (if l.length = n then partsT F Γ g (setT cells off l) ps else R.fail).ok r → M.holds (if s.cells.length = n then partsAt st true (setCells as off s.cells) ps else M.fail) fun l => avs μ st.ver (lnT F Γ) r l := by
   intro l hl hx
   have e := avs_length hl
   split at hx
   case isFalse => exact (R.ok_fail.1 hx).elim
   rename_i hn
   rw [if_pos (by rw [e]; exact hn)]
   exact parts_sim hg hx (setT_avs off ha hl)
  cases v with
  | one c => obtain ⟨a, rfl, hc⟩ := hs; exact key [c] ⟨hc, trivial⟩ hx
  | agg l => obtain ⟨k, rfl, hc⟩ := hs; exact key l hc hx
  | clo f l => exact (R.ok_fail.1 hx).elim
theorem caps_sim {g : Gd} (hg : gv F Γ g = true) : ∀ {xs : List Opd} {r : List TC}, (capsT F Γ g xs).ok r → (capsOf st true xs).holds fun l => avs μ st.ver (lnT F Γ) r l
 | [], r, hx => by
  simp only [capsT] at hx
  obtain rfl := R.ok_pure.1 hx
  simp only [capsOf]
  exact M.holds_pure' trivial
 | x :: xs, r, hx => by
  simp only [capsT] at hx
  rw [R.ok_bind] at hx
  obtain ⟨c, h1, hx⟩ := hx
  rw [R.ok_bind] at hx
  obtain ⟨l, h2, hx⟩ := hx
  obtain rfl := R.ok_pure.1 hx
  simp only [capsOf, M.holds_bind]
  refine M.holds_mono (useO_sim h (fun _ => hg) h1) fun a ha => ?_
  refine M.holds_mono (caps_sim hg h2) fun m hm => ?_
  exact M.holds_pure' ⟨ha, hm⟩
end
end Go.VS
namespace Go.VS
theorem map_getD {α β : Type} (f : α → β) (l : List α) (i : Nat) (d : α) (d' : β) (h : i < l.length) : (l.map f).getD i d' = f (l.getD i d) := by
 simp [List.getD_eq_getElem?_getD, List.getElem?_eq_getElem h]
theorem one_at {α : Type} {l : List α} {i : Nat} {a : α} (h : l[i]? = some a) : (l.drop i).take 1 = [a] := by
 have hlt := (List.getElem?_eq_some_iff.1 h).1
 rw [List.drop_eq_getElem_cons hlt]
 have : l[i] = a := by simpa [List.getElem?_eq_getElem hlt] using h
 simp [this]
theorem winL_eq {α β : Type} (f : α → β) (xs : List α) (l r : Option Int) (h1 : loN l ≤ hiN xs.length r) (h2 : hiN xs.length r ≤ xs.length) :
  window (loN l) (hiN xs.length r - loN l) (xs.map f) = (winL l r xs).map f := by
 have key : (winL l r xs) = (xs.drop (loN l)).take (hiN xs.length r - loN l) := by
  cases l with
  | none => cases r with
   | none => simp [winL, loN, hiN]
   | some b => simp [winL, loN, hiN]
  | some a => cases r with
   | none => simp only [winL, loN, hiN]; rw [List.take_of_length_le (by simp)]
   | some b => simp only [winL, loN, hiN]; rw [List.drop_take]
 rw [key]
 unfold window
 split
 ·rename_i h
  obtain ⟨h3, h4⟩ := h
  rw [h3] at *
  simp only [List.length_map, Nat.sub_zero] at h4
  rw [List.drop_zero, Nat.sub_zero, h4, List.take_length]
 ·simp
theorem bytesOf_enc {tt : TT} : ∀ l : List Int, bytesOf (l.map ((BT.int .u8).enc tt)) = some l
 | [] => rfl
 | n :: l => by
  show bytesOf ([.lit (.int .u8 n)] :: l.map ((BT.int .u8).enc tt)) = some (n :: l)
  rw [bytesOf, bytesOf_enc l]
  rfl
section
variable {μ : Nat → Nat} {ver : Root → Nat} {ln : Place → Option Nat}
theorem enc_free : ∀ (t : BT) (tt : TT) (_ : TC.freeT.TT.freeT tt = true) (x : t.D), (t.enc tt x).all AV.free = true
 | .int _, _, _, _ => rfl
 | .bool, _, _, _ => rfl
 | .str, _, _, _ => rfl
 | .unit, _, _, _ => rfl
 | .sl e, tt, h, l => by
  have h1 : tt.tag ≠ .brw ∧ TC.freeT.TT.freeT tt.elt = true := by
   cases tt with
   | leaf => exact ⟨by simp [TT.tag], rfl⟩
   | node τ a => cases τ <;> simp_all [TC.freeT.TT.freeT, TT.tag, TT.elt]
   | pair a b => exact ⟨by simp [TT.tag], rfl⟩
  have h2 : freeLL (l.map (e.enc tt.elt)) = true := by
   rw [freeLL_eq, List.all_map, List.all_eq_true]
   intro x _
   exact enc_free e _ h1.2 x
  simp only [BT.enc, List.all_cons, List.all_nil, Bool.and_true]
  cases ht : tt.tag with
  | brw => exact (h1.1 ht).elim
  | _ => exact h2
 | .pair a b, tt, h, x => by
  have h1 : TC.freeT.TT.freeT tt.fst = true ∧ TC.freeT.TT.freeT tt.snd = true := by
   cases tt with
   | leaf => exact ⟨rfl, rfl⟩
   | node τ a => exact ⟨rfl, rfl⟩
   | pair a b => simpa [TC.freeT.TT.freeT, TT.fst, TT.snd] using h
  simp only [BT.enc, List.all_append, enc_free a _ h1.1, enc_free b _ h1.2, Bool.and_self]
theorem freeC_ok {c : TC} (h : c.freeT = true) {a : AV} (ha : c.av μ ver ln a) : a.free = true := by
 cases c with
 | ref => cases h
 | adr => cases h
 | iadr => cases h
 | iadrd => cases h
 | dead => cases h
 | sl τ tt e l =>
  have ha : a = _ := ha
  subst ha
  have h2 : τ ≠ .brw ∧ TC.freeT.TT.freeT tt = true := by cases τ <;> simp_all [TC.freeT]
  have h3 : freeLL (l.map (e.enc tt)) = true := by
   rw [freeLL_eq, List.all_map, List.all_eq_true]
   intro x _
   exact enc_free e _ h2.2 x
  cases τ with
  | brw => exact (h2.1 rfl).elim
  | _ => exact h3
 | _ => (have ha : a = _ := ha); subst ha; rfl
theorem free_ok : ∀ {l : List TC}, l.all TC.freeT = true → ∀ {as : List AV}, avs μ ver ln l as → as.all AV.free = true
 | [], _, [], _ => rfl
 | c :: l, h, a :: as, ha => by
  simp only [List.all_cons, Bool.and_eq_true] at h ⊢
  exact ⟨freeC_ok h.1 ha.1, free_ok h.2 ha.2⟩
 | [], _, _ :: _, h => h.elim
 | _ :: _, _, [], h => h.elim
end
section
variable {μ : Nat → Nat} {F Γ : TS} {st : St} (h : Sim μ F Γ st)
include h
theorem len_place {p : Place} {s : Stp} {tt : TT} {e : BT} {l : List e.D} (hp : atT F Γ p = some (.sl .own tt e l)) (hk : s.k = e.size) (hi : s.i < l.length) {τ2 : Tag} {tt2 : TT} {e2 : BT} {l2 : List e2.D}
  (hc : (e.ex tt (l.getD s.i e.dflt))[s.c]? = some (.sl τ2 tt2 e2 l2)) {n : Nat} (hn : lnT F Γ ⟨p.root, p.path ++ [s]⟩ = some n) : n = l2.length := by
 unfold lnT atT at hn
 unfold atT at hp
 cases hr : rootT F Γ p.root with
 | none => rw [hr] at hp; cases hp
 | some c =>
  rw [hr, Option.bind_some] at hp
  simp only [hr, Option.bind_some, atS_append, hp] at hn
  simp only [TC.atS, if_pos hk, List.getElem?_eq_getElem hi, Option.bind_some] at hn
  have e1 : l.getD s.i e.dflt = l[s.i] := by simp [List.getD_eq_getElem?_getD, List.getElem?_eq_getElem hi]
  rw [e1] at hc
  rw [hc] at hn
  have e3 : (TC.sl τ2 tt2 e2 l2).atS [] = some (.sl τ2 tt2 e2 l2) := by cases τ2 <;> rfl
  simpa [e3, TC.len?] using hn.symm
theorem load_sim {g : Gd} (hg : gv F Γ g = true) {agg : Bool} {n : Nat} {c : TC} {v : TSV} (hx : (loadT F Γ g agg n c).ok v) {x : Opd} (ha : (st.useOne true x).holds fun a => c.av μ st.ver (lnT F Γ) a) :
  (st.effR true (.load agg n x)).holds fun s => v.sv μ st.ver (lnT F Γ) s := by
 simp only [St.effR, M.holds_bind]
 refine M.holds_mono ha fun a ha => ?_
 cases c with
 | box b c =>
  have ha : a = _ := ha
  subst ha
  simp only [loadT] at hx
  split at hx
  case h_2 => exact (R.ok_fail.1 hx).elim
  rename_i l hl
  split at hx
  case isFalse => exact (R.ok_fail.1 hx).elim
  rename_i hc
  obtain rfl := R.ok_pure.1 hx
  obtain ⟨k, q1, q2, q3, q4⟩ := h.bx b l hl
  simp only [q1, M.holds_bind, M.holds_need]
  have hlen := avs_length q2
  refine ⟨by omega, M.holds_pure' ?_⟩
  rw [sub_eq k c n k.length rfl]
  refine mk_sv agg (peekM_av (mk := fun j => ⟨.obj b (c + j), []⟩) (fun j k' n' => rfl) 0 (avs_sub q2 c n) (all_take_drop q4 c n) ?_)
  intro i τ tt e l' hi m hm
  simp only [Nat.zero_add, lnT, atT, rootT, hl, Option.bind_some] at hm
  have hi2 : l[c + i]? = some (.sl τ tt e l') := by
   rw [List.getElem?_take] at hi
   split at hi
   ·rw [List.getElem?_drop] at hi; exact hi
   ·cases hi
  rw [hi2] at hm
  have e3 : (TC.sl τ tt e l').atS [] = some (.sl τ tt e l') := by cases τ <;> rfl
  simpa [e3, TC.len?] using hm.symm
 | boxd b c m i =>
  have ha : a = _ := ha
  subst ha
  simp only [loadT] at hx
  split at hx
  case h_2 => exact (R.ok_fail.1 hx).elim
  rename_i l hl
  split at hx
  case h_2 => exact (R.ok_fail.1 hx).elim
  rename_i d hd
  split at hx
  case isFalse => exact (R.ok_fail.1 hx).elim
  rename_i hc
  obtain ⟨rfl, rfl, hc⟩ := hc
  rw [R.ok_bind] at hx
  obtain ⟨_, h1, hx⟩ := hx
  have hi := needG_spec h1 hg
  obtain rfl := R.ok_pure.1 hx
  obtain ⟨k, q1, q2, q3, q4⟩ := h.bx b l hl
  simp only [q1, M.holds_bind, M.holds_need]
  have hlen := avs_length q2
  refine ⟨by omega, M.holds_pure' ?_⟩
  rw [sub_eq k _ _ k.length rfl]
  have hsel := selC_spec hd (by simp; omega)
  rw [List.getElem?_take_of_lt hi, List.getElem?_drop] at hsel
  obtain ⟨a, ha, hav⟩ := avs_get q2 hsel
  have e1 := one_at ha
  rw [e1]
  refine ⟨_, rfl, ?_⟩
  simp only [peekMem, List.headD]
  cases a with
  | sl τ k' xs =>
   cases τ with
   | own =>
    exfalso
    unfold selC at hd
    split at hd
    ·cases hd; simp [TC.av] at hav
    ·split at hd
     ·cases hd; simp [TC.av] at hav
     ·cases hd
   | _ => exact hav
  | ref =>
   exfalso
   unfold selC at hd
   split at hd
   ·cases hd; simp [TC.av] at hav
   ·split at hd
    ·cases hd; simp [TC.av] at hav
    ·cases hd
  | adr =>
   exfalso
   unfold selC at hd
   split at hd
   ·cases hd; simp [TC.av] at hav
   ·split at hd
    ·cases hd; simp [TC.av] at hav
    ·cases hd
  | _ => exact hav
 | adr p tt0 e i c =>
  have ha : a = _ := ha
  subst ha
  simp only [loadT] at hx
  rw [R.ok_bind] at hx
  obtain ⟨d, h1, hx⟩ := hx
  cases d with
  | sl τ tt e' l =>
   cases τ with
   | own =>
    simp only [loadAdr] at hx
    split at hx
    case isFalse => exact (R.ok_fail.1 hx).elim
    rename_i hk
    obtain ⟨hk, hc⟩ := hk
    rw [R.ok_bind] at hx
    obtain ⟨_, h2, hx⟩ := hx
    have hi := needG_spec h2 hg
    obtain rfl := R.ok_pure.1 hx
    obtain ⟨q1, q2⟩ := own_sim h h1
    have q0 := atR_atT h1
    simp only [q1, M.holds_bind, M.holds_need]
    refine ⟨trivial, hk, fun _ => by simpa using hi, hc, M.holds_pure' ?_⟩
    rw [map_getD (e'.enc tt) l i e'.dflt [] hi, sub_eq _ c n _ (by rw [enc_length, hk])]
    refine mk_sv agg (peekM_av (mk := fun j => ⟨p.root, p.path ++ [⟨i, e.size, c + j⟩]⟩) (fun j k' n' => rfl) 0 (avs_sub (ex_av e' tt _) c n) (all_take_drop (ex_solid _ _ _) c n) ?_)
    intro j τ tt2 e2 l' hj m hm
    rw [Nat.zero_add] at hm
    have hj2 : (e'.ex tt (l.getD i e'.dflt))[c + j]? = some (.sl τ tt2 e2 l') := by
     rw [List.getElem?_take] at hj
     split at hj
     ·rw [List.getElem?_drop] at hj; exact hj
     ·cases hj
    exact len_place h (s := ⟨i, e.size, c + j⟩) q0 hk.symm hi hj2 hm
   | _ => exact (R.ok_fail.1 hx).elim
  | _ => exact (R.ok_fail.1 hx).elim
 | iadr tt e l i c =>
  have ha : a = _ := ha
  subst ha
  simp only [loadT] at hx
  split at hx
  case isFalse => exact (R.ok_fail.1 hx).elim
  rename_i hc
  rw [R.ok_bind] at hx
  obtain ⟨_, h2, hx⟩ := hx
  have hi := needG_spec h2 hg
  obtain rfl := R.ok_pure.1 hx
  simp only [M.holds_bind, M.holds_need]
  refine ⟨fun _ => by simpa using hi, hc, M.holds_pure' ?_⟩
  rw [map_getD (e.enc tt) l i e.dflt [] hi, sub_eq _ c n _ (enc_length _ _ _)]
  exact mk_sv agg (avs_noRef (all_take_drop (ex_solid _ _ _) c n) (avs_sub (ex_av e tt _) c n))
 | iadrd tt e l i c m j =>
  have ha : a = _ := ha
  subst ha
  simp only [loadT] at hx
  split at hx
  case h_2 => exact (R.ok_fail.1 hx).elim
  rename_i d hd
  split at hx
  case isFalse => exact (R.ok_fail.1 hx).elim
  rename_i hc
  obtain ⟨rfl, rfl, hc⟩ := hc
  rw [R.ok_bind] at hx
  obtain ⟨_, h2, hx⟩ := hx
  obtain ⟨hi, hj⟩ := needG_spec h2 hg
  obtain rfl := R.ok_pure.1 hx
  simp only [M.holds_bind, M.holds_need]
  refine ⟨fun _ => by simpa using hi, by omega, M.holds_pure' ?_⟩
  rw [map_getD (e.enc tt) l i e.dflt [] hi, sub_eq _ _ _ _ (enc_length _ _ _)]
  have hsel := selC_spec hd (by rw [List.length_take, List.length_drop, ex_length]; omega)
  rw [List.getElem?_take_of_lt hj, List.getElem?_drop] at hsel
  have q2 := ex_av (μ := μ) (ver := st.ver) (ln := lnT F Γ) e tt (l.getD i e.dflt)
  obtain ⟨a, ha, hav⟩ := avs_get q2 hsel
  have e1 := one_at ha
  rw [e1]
  refine ⟨_, rfl, ?_⟩
  have hsol : d.solidT = true ∧ d ≠ .dead := by
   unfold selC at hd
   split at hd
   ·cases hd; exact ⟨rfl, by simp⟩
   ·split at hd
    ·cases hd; exact ⟨rfl, by simp⟩
    ·cases hd
  have := avs_noRef (cs := [d]) (as := [a]) (μ := μ) (ver := st.ver) (ln := lnT F Γ) (by simp [hsol.1]) ⟨hav, trivial⟩
  exact this.1
 | _ => exact (R.ok_fail.1 hx).elim
theorem slK_sim {g : Gd} (hg : gv F Γ g = true) {k : Nat} {lo hi : Option Opd} {c : TC} {v : TSV} (hx : (slKT F Γ g k lo hi c).ok v) {x : Opd} (ha : (st.useOne true x).holds fun a => c.av μ st.ver (lnT F Γ) a) :
  (st.effR true (.slK k x lo hi)).holds fun s => v.sv μ st.ver (lnT F Γ) s := by
 simp only [St.effR, M.holds_bind]
 refine M.holds_mono ha fun a ha => ?_
 cases c with
 | ref p tt e w =>
  simp only [slKT] at hx
  rw [R.ok_bind] at hx
  obtain ⟨d, h1, hx⟩ := hx
  cases d with
  | sl τ tt' e' l0 =>
   cases τ with
   | own =>
    obtain ⟨q1, q2⟩ := own_sim h h1
    cases w with
    | none =>
     have ha : a = _ := ref_eq ha q2
     subst ha
     simp only [slKR] at hx
     split at hx
     case isFalse => exact (R.ok_fail.1 hx).elim
     rename_i hk
     rw [R.ok_bind] at hx
     obtain ⟨⟨l, r⟩, h2, hx⟩ := hx
     obtain rfl := R.ok_pure.1 hx
     obtain ⟨b1, b2, b3⟩ := bnd_sim h hg h2
     simp only [q1, M.holds_bind, M.holds_need]
     refine ⟨trivial, hk, M.holds_mono b1 ?_⟩
     rintro _ rfl
     refine M.holds_pure' ?_
     subst hk
     cases l with
     | none => cases r with
      | none =>
       refine ⟨_, rfl, ?_⟩
       refine ⟨l0.length, by simp [loN, hiN], fun n hn => ?_⟩
       rw [q2] at hn
       cases hn
       rfl
      | some b => exact ⟨_, rfl, by simp [TC.av, loN, hiN]⟩
     | some a => cases r with
      | none => exact ⟨_, rfl, by simp [TC.av, loN, hiN]⟩
      | some b => exact ⟨_, rfl, by simp [TC.av, loN, hiN]⟩
    | some y =>
     obtain ⟨lo0, n⟩ := y
     have ha : a = _ := ha
     subst ha
     simp only [slKR] at hx
     split at hx
     case isFalse => exact (R.ok_fail.1 hx).elim
     rename_i hk
     rw [R.ok_bind] at hx
     obtain ⟨⟨l, r⟩, h2, hx⟩ := hx
     obtain rfl := R.ok_pure.1 hx
     obtain ⟨b1, b2, b3⟩ := bnd_sim h hg h2
     simp only [q1, M.holds_bind, M.holds_need]
     refine ⟨trivial, hk, M.holds_mono b1 ?_⟩
     rintro _ rfl
     refine M.holds_pure' ?_
     subst hk
     cases l with
     | none => cases r with
      | none => exact ⟨_, rfl, by simp [TC.av, loN, hiN]⟩
      | some b => exact ⟨_, rfl, by simp [TC.av, loN, hiN]⟩
     | some a => cases r with
      | none => exact ⟨_, rfl, by simp [TC.av, loN, hiN]⟩
      | some b => exact ⟨_, rfl, by simp [TC.av, loN, hiN]⟩
   | _ => cases w with
    | none => exact (R.ok_fail.1 hx).elim
    | some y => exact (R.ok_fail.1 hx).elim
  | _ => cases w with
   | none => exact (R.ok_fail.1 hx).elim
   | some y => exact (R.ok_fail.1 hx).elim
 | sl τ tt e l =>
  have ha : a = _ := ha
  subst ha
  simp only [slKT] at hx
  split at hx
  case isFalse => exact (R.ok_fail.1 hx).elim
  rename_i hk
  obtain ⟨hτ, hk⟩ := hk
  rw [R.ok_bind] at hx
  obtain ⟨⟨r1, r2⟩, h2, hx⟩ := hx
  obtain rfl := R.ok_pure.1 hx
  obtain ⟨b1, b2, b3⟩ := bnd_sim h hg h2
  simp only [M.holds_bind, M.holds_need, List.length_map]
  refine ⟨hk, hτ, M.holds_mono b1 ?_⟩
  rintro _ rfl
  refine M.holds_pure' ⟨_, rfl, ?_⟩
  simp only [TC.av]
  rw [← hk, winL_eq _ _ _ _ b2 b3]
 | nil =>
  have ha : a = _ := ha
  subst ha
  simp only [slKT] at hx
  rw [R.ok_bind] at hx
  obtain ⟨⟨r1, r2⟩, h2, hx⟩ := hx
  obtain rfl := R.ok_pure.1 hx
  obtain ⟨b1, b2, b3⟩ := bnd_sim h hg h2
  simp only [M.holds_bind]
  refine M.holds_mono b1 ?_
  rintro _ rfl
  exact M.holds_pure' ⟨_, rfl, rfl⟩
 | _ => exact (R.ok_fail.1 hx).elim
theorem ixA_sim {g : Gd} (hg : gv F Γ g = true) {k : Nat} {n : Int} {c : TC} {v : TSV} (hx : (ixAT F Γ g k n c).ok v) {x i : Opd} (hi : (st.useInt true i).holds (· = n)) (ha : (st.useOne true x).holds fun a => c.av μ st.ver (lnT F Γ) a) :
  (st.effR true (.ixA k x i)).holds fun s => v.sv μ st.ver (lnT F Γ) s := by
 simp only [St.effR, M.holds_bind]
 refine M.holds_mono hi ?_
 rintro _ rfl
 refine M.holds_mono ha fun a ha => ?_
 cases c with
 | ref p tt e w =>
  simp only [ixAT] at hx
  rw [R.ok_bind] at hx
  obtain ⟨d, h1, hx⟩ := hx
  cases d with
  | sl τ tt' e' l0 =>
   cases τ with
   | own =>
    obtain ⟨q1, q2⟩ := own_sim h h1
    cases w with
    | none =>
     have ha : a = _ := ref_eq ha q2
     subst ha
     simp only [ixAR] at hx
     split at hx
     case isFalse => exact (R.ok_fail.1 hx).elim
     rename_i hk
     rw [R.ok_bind] at hx
     obtain ⟨_, h2, hx⟩ := hx
     have hb := needG_spec h2 hg
     obtain rfl := R.ok_pure.1 hx
     simp only [q1, M.holds_bind, M.holds_need]
     refine ⟨trivial, hk, fun _ => hb, M.holds_pure' ⟨_, rfl, ?_⟩⟩
     subst hk
     simp [TC.av]
    | some y =>
     obtain ⟨lo0, n0⟩ := y
     have ha : a = _ := ha
     subst ha
     simp only [ixAR] at hx
     split at hx
     case isFalse => exact (R.ok_fail.1 hx).elim
     rename_i hk
     rw [R.ok_bind] at hx
     obtain ⟨_, h2, hx⟩ := hx
     have hb := needG_spec h2 hg
     obtain rfl := R.ok_pure.1 hx
     simp only [q1, M.holds_bind, M.holds_need]
     refine ⟨trivial, hk, fun _ => hb, M.holds_pure' ⟨_, rfl, ?_⟩⟩
     subst hk
     simp [TC.av]
   | _ => cases w with
    | none => exact (R.ok_fail.1 hx).elim
    | some y => exact (R.ok_fail.1 hx).elim
  | _ => cases w with
   | none => exact (R.ok_fail.1 hx).elim
   | some y => exact (R.ok_fail.1 hx).elim
 | sl τ tt e l =>
  have ha : a = _ := ha
  subst ha
  simp only [ixAT] at hx
  split at hx
  case isFalse => exact (R.ok_fail.1 hx).elim
  rename_i hk
  obtain ⟨hτ, hk⟩ := hk
  rw [R.ok_bind] at hx
  obtain ⟨_, h2, hx⟩ := hx
  have hb := needG_spec h2 hg
  obtain rfl := R.ok_pure.1 hx
  simp only [M.holds_bind, M.holds_need, List.length_map]
  refine ⟨hk, hτ, fun _ => hb, M.holds_pure' ⟨_, rfl, ?_⟩⟩
  subst hk
  exact rfl
 | _ => exact (R.ok_fail.1 hx).elim
theorem len_sim {c d : TC} (hx : (lenT F Γ c).ok d) {a : AV} (ha : c.av μ st.ver (lnT F Γ) a) : (lenV a).holds fun n => d = .int .i64 n := by
 cases c with
 | ref p tt e w =>
  cases w with
  | none =>
   simp only [lenT] at hx
   rw [R.ok_bind] at hx
   obtain ⟨d', h1, hx⟩ := hx
   cases d' with
   | sl τ tt' e' l0 =>
    cases τ with
    | own =>
     obtain ⟨q1, q2⟩ := own_sim h h1
     have ha : a = _ := ref_eq ha q2
     subst ha
     obtain rfl := R.ok_pure.1 hx
     exact M.holds_pure' rfl
    | _ => exact (R.ok_fail.1 hx).elim
   | _ => exact (R.ok_fail.1 hx).elim
  | some y =>
   obtain ⟨lo, n⟩ := y
   have ha : a = _ := ha
   subst ha
   simp only [lenT] at hx
   obtain rfl := R.ok_pure.1 hx
   exact M.holds_pure' rfl
 | sl τ tt e l =>
  have ha : a = _ := ha
  subst ha
  simp only [lenT] at hx
  obtain rfl := R.ok_pure.1 hx
  simp only [lenV]
  exact M.holds_pure' (by simp)
 | nil =>
  have ha : a = _ := ha
  subst ha
  simp only [lenT] at hx
  obtain rfl := R.ok_pure.1 hx
  exact M.holds_pure' rfl
 | _ => exact (R.ok_fail.1 hx).elim
theorem eff_sim {g : Gd} (hg : gv F Γ g = true) {op : AOp} {v : TSV} (hx : (effT F Γ g op).ok v) : (st.effR true op).holds fun s => v.sv μ st.ver (lnT F Γ) s := by
 have hg' : true = true → gv F Γ g = true := fun _ => hg
 cases op with
 | mv x => exact use_sim h hg' hx
 | pick c a b =>
  cases c with
  | t n =>
   simp only [effT] at hx
   rw [R.ok_bind] at hx
   obtain ⟨cb, h1, hx⟩ := hx
   rw [R.ok_bind] at hx
   obtain ⟨av, h2, hx⟩ := hx
   rw [R.ok_bind] at hx
   obtain ⟨bv, h3, hx⟩ := hx
   obtain rfl := R.ok_pure.1 hx
   have hslot : slotB F Γ n = some cb := by
    unfold useB at h1
    rw [R.ok_bind] at h1
    obtain ⟨v, h4, h5⟩ := h1
    unfold slotB
    simp only [useT] at h4
    split at h4
    case h_2 => exact (R.ok_fail.1 h4).elim
    rename_i gd v0 hs
    rw [hs]
    cases hsub : gsub gd g with
    | false => rw [hsub] at h4; exact (R.ok_fail.1 h4).elim
    | true =>
     rw [hsub] at h4
     have h4 := R.ok_pure.1 h4
     subst h4
     split at h5
     case h_2 => exact (R.ok_fail.1 h5).elim
     rename_i b0 hb0
     obtain rfl := R.ok_pure.1 h5
     cases v0 with
     | one c0 =>
      cases c0 with
      | bool b1 => simp only [TSV.peek, peek1, TSV.one.injEq, TC.bool.injEq] at hb0; rw [hb0]
      | sl τ tt e l => cases τ <;> simp [TSV.peek, peek1] at hb0
      | _ => simp [TSV.peek, peek1] at hb0
     | agg l => simp [TSV.peek] at hb0
     | clo f l => simp [TSV.peek] at hb0
   simp only [St.effR, M.holds_bind]
   refine M.holds_mono (useB_sim h hg' h1) fun x0 e0 => ?_
   rw [e0]
   clear e0 x0
   refine M.holds_mono (useB_sim h (b := true && cb) ?_ h2) ?_
   ·intro hc
    simp only [Bool.true_and] at hc
    subst hc
    simp only [gv, hslot, hg]
    rfl
   rintro _ rfl
   refine M.holds_mono (useB_sim h (b := true && !cb) ?_ h3) ?_
   ·intro hc
    simp only [Bool.true_and, Bool.not_eq_true'] at hc
    subst hc
    simp only [gv, hslot, hg]
    rfl
   rintro _ rfl
   exact M.holds_pure' ⟨_, rfl, rfl⟩
  | c v => exact (R.ok_fail.1 hx).elim
  | f nm => exact (R.ok_fail.1 hx).elim
 | build zero parts =>
  simp only [effT] at hx
  rw [R.ok_bind] at hx
  obtain ⟨l, h1, hx⟩ := hx
  obtain rfl := R.ok_pure.1 hx
  simp only [St.effR, M.holds_bind]
  have hz : ∀ zs : List Value, avs μ st.ver (lnT F Γ) (zs.map constC) (zs.map .lit) := by
   intro zs
   induction zs with
   | nil => exact trivial
   | cons z zs ih => exact ⟨constC_av z, ih⟩
  refine M.holds_mono (parts_sim h hg h1 (hz zero)) fun as ha => M.holds_pure' ⟨as, rfl, ha⟩
 | load agg n x =>
  simp only [effT] at hx
  rw [R.ok_bind] at hx
  obtain ⟨c, h1, hx⟩ := hx
  exact load_sim h hg hx (useO_sim h hg' h1)
 | nilc x =>
  simp only [effT] at hx
  rw [R.ok_bind] at hx
  obtain ⟨c, h1, hx⟩ := hx
  have h2 := use_sim h hg' h1
  simp only [St.effR, St.useOne, M.holds_bind]
  refine M.holds_mono h2 fun s hs => ?_
  unfold nilcT at hx
  split at hx
  ·obtain rfl := R.ok_pure.1 hx
   obtain ⟨a, rfl, ha⟩ := hs
   rw [M.holds_pure]
   have ha : a = _ := ha
   subst ha
   exact M.holds_pure' ⟨_, rfl, rfl⟩
  ·obtain rfl := R.ok_pure.1 hx
   obtain ⟨a, rfl, ha⟩ := hs
   rw [M.holds_pure]
   have ha : a = _ := ha
   subst ha
   exact M.holds_pure' ⟨_, rfl, rfl⟩
  ·obtain rfl := R.ok_pure.1 hx
   obtain ⟨a, rfl, ha⟩ := hs
   rw [M.holds_pure]
   have ha : a = _ := ha
   subst ha
   exact M.holds_pure' ⟨_, rfl, rfl⟩
  ·obtain rfl := R.ok_pure.1 hx
   obtain ⟨a, rfl, ha⟩ := hs
   rw [M.holds_pure]
   have ha : a = _ := ha
   subst ha
   exact M.holds_pure' ⟨_, rfl, rfl⟩
  ·obtain rfl := R.ok_pure.1 hx
   obtain ⟨k, rfl, ha⟩ := hs
   rw [M.holds_pure]
   exact M.holds_pure' ⟨k, rfl, ha⟩
  ·exact (R.ok_fail.1 hx).elim
 | bin op x y =>
  simp only [effT] at hx
  rw [R.ok_bind] at hx
  obtain ⟨c, h1, hx⟩ := hx
  rw [R.ok_bind] at hx
  obtain ⟨d, h2, hx⟩ := hx
  rw [R.ok_bind] at hx
  obtain ⟨r, h3, hx⟩ := hx
  obtain rfl := R.ok_pure.1 hx
  simp only [St.effR, M.holds_bind]
  have k1 := use_sim (v := .one c) h hg' (by
   unfold useO at h1; rw [R.ok_bind] at h1; obtain ⟨v, q1, q2⟩ := h1
   split at q2
   ·obtain rfl := R.ok_pure.1 q2; exact q1
   ·exact (R.ok_fail.1 q2).elim)
  have k2 := use_sim (v := .one d) h hg' (by
   unfold useO at h2; rw [R.ok_bind] at h2; obtain ⟨v, q1, q2⟩ := h2
   split at q2
   ·obtain rfl := R.ok_pure.1 q2; exact q1
   ·exact (R.ok_fail.1 q2).elim)
  refine M.holds_mono k1 fun s hs => ?_
  refine M.holds_mono k2 fun s' hs' => ?_
  obtain ⟨a, rfl, ha⟩ := hs
  obtain ⟨b, rfl, hb⟩ := hs'
  obtain ⟨u, w, p, v, rfl, rfl, e1, e2, e3⟩ := binT_spec hg h3 ha hb
  simp only [M.holds_bind]
  rw [M.holds_ofOption]
  exact ⟨p, v, e1, e2, M.holds_pure' ⟨_, rfl, e3⟩⟩
 | eqB ne x y =>
  simp only [effT] at hx
  rw [R.ok_bind] at hx
  obtain ⟨c, h1, hx⟩ := hx
  rw [R.ok_bind] at hx
  obtain ⟨d, h2, hx⟩ := hx
  obtain rfl := R.ok_pure.1 hx
  simp only [St.effR, M.holds_bind]
  refine M.holds_mono (useB_sim h hg' h1) ?_
  rintro _ rfl
  refine M.holds_mono (useB_sim h hg' h2) ?_
  rintro _ rfl
  refine M.holds_pure' ⟨_, rfl, ?_⟩
  cases ne <;> rfl
 | eqA ne ks x y =>
  simp only [effT] at hx
  rw [R.ok_bind] at hx
  obtain ⟨c, h1, hx⟩ := hx
  rw [R.ok_bind] at hx
  obtain ⟨d, h2, hx⟩ := hx
  rw [R.ok_bind] at hx
  obtain ⟨r, h3, hx⟩ := hx
  obtain rfl := R.ok_pure.1 hx
  have h3 := R.ok_ofOpt.1 h3
  simp only [St.effR, M.holds_bind]
  refine M.holds_mono (useA_sim h hg' h1) fun s hs => ?_
  refine M.holds_mono (useA_sim h hg' h2) fun s' hs' => ?_
  obtain ⟨a, rfl, ha⟩ := hs
  obtain ⟨b, rfl, hb⟩ := hs'
  simp only [M.holds_bind]
  rw [M.holds_ofOpt]
  refine ⟨r, eqCs_spec h3 ha hb, M.holds_pure' ⟨_, rfl, ?_⟩⟩
  cases ne <;> rfl
 | un op x =>
  simp only [effT] at hx
  rw [R.ok_bind] at hx
  obtain ⟨c, h1, hx⟩ := hx
  rw [R.ok_bind] at hx
  obtain ⟨d, h2, hx⟩ := hx
  obtain rfl := R.ok_pure.1 hx
  simp only [St.effR, M.holds_bind]
  refine M.holds_mono (useO_sim h hg' h1) fun a ha => ?_
  unfold unT at h2
  split at h2
  ·obtain rfl := R.ok_pure.1 h2
   have ha : a = _ := ha
   subst ha
   simp only [M.holds_bind]
   rw [M.holds_ofOpt]
   exact ⟨_, rfl, M.holds_pure' ⟨_, rfl, rfl⟩⟩
  ·obtain rfl := R.ok_pure.1 h2
   have ha : a = _ := ha
   subst ha
   simp only [M.holds_bind]
   rw [M.holds_ofOpt]
   exact ⟨_, rfl, M.holds_pure' ⟨_, rfl, rfl⟩⟩
  ·obtain rfl := R.ok_pure.1 h2
   have ha : a = _ := ha
   subst ha
   simp only [M.holds_bind]
   rw [M.holds_ofOpt]
   exact ⟨_, rfl, M.holds_pure' ⟨_, rfl, rfl⟩⟩
  ·exact (R.ok_fail.1 h2).elim
 | conv cv x =>
  simp only [effT] at hx
  rw [R.ok_bind] at hx
  obtain ⟨c, h1, hx⟩ := hx
  rw [R.ok_bind] at hx
  obtain ⟨d, h2, hx⟩ := hx
  obtain rfl := R.ok_pure.1 hx
  simp only [St.effR, M.holds_bind]
  refine M.holds_mono (useO_sim h hg' h1) fun a ha => ?_
  unfold convT at h2
  split at h2
  ·obtain rfl := R.ok_pure.1 h2
   have ha : a = _ := ha
   subst ha
   exact M.holds_pure' ⟨_, rfl, rfl⟩
  ·obtain rfl := R.ok_pure.1 h2
   have ha : a = _ := ha
   subst ha
   exact M.holds_pure' ⟨_, rfl, rfl⟩
  ·obtain rfl := R.ok_pure.1 h2
   have ha : a = _ := ha
   subst ha
   exact M.holds_pure' ⟨_, rfl, by simp [TC.av, encL]⟩
  ·rw [R.ok_bind] at h2
   obtain ⟨d', h3, h2⟩ := h2
   rename_i p tt w
   unfold bytesT at h2
   split at h2
   case h_2 => exact (R.ok_fail.1 h2).elim
   rename_i tt' l
   obtain ⟨q1, q2⟩ := own_sim h h3
   cases w with
   | none =>
    obtain rfl := R.ok_pure.1 h2
    have ha : a = _ := ref_eq ha q2
    subst ha
    simp only [St.whole, q1, M.holds_bind]
    rw [M.holds_need, M.holds_need, M.holds_need, M.holds_need]
    refine ⟨by trivial, by trivial, by trivial, by simp, ?_⟩
    rw [M.holds_pure, M.holds_ofOpt]
    refine ⟨l, ?_, M.holds_pure' ⟨_, rfl, rfl⟩⟩
    rw [window_eq, List.drop_zero, List.take_of_length_le (by simp)]
    exact bytesOf_enc l
   | some y =>
    obtain ⟨lo, n⟩ := y
    simp only at h2
    rw [R.ok_bind] at h2
    obtain ⟨_, h4, h2⟩ := h2
    have h4 := R.ok_need.1 h4
    obtain rfl := R.ok_pure.1 h2
    have ha : a = _ := ha
    subst ha
    simp only [St.whole, q1, M.holds_bind]
    rw [M.holds_need, M.holds_need, M.holds_need, M.holds_need]
    refine ⟨by trivial, by trivial, by trivial, by simpa using h4, ?_⟩
    rw [M.holds_pure, M.holds_ofOpt]
    refine ⟨_, ?_, M.holds_pure' ⟨_, rfl, rfl⟩⟩
    rw [window_eq, ← List.map_drop, ← List.map_take]
    exact bytesOf_enc _
  ·obtain rfl := R.ok_pure.1 h2
   have ha : a = _ := ha
   subst ha
   simp only [St.whole, M.holds_bind]
   rw [M.holds_need]
   refine ⟨rfl, ?_⟩
   rw [M.holds_pure, M.holds_ofOpt]
   exact ⟨_, bytesOf_enc _, M.holds_pure' ⟨_, rfl, rfl⟩⟩
  ·obtain rfl := R.ok_pure.1 h2
   have ha : a = _ := ha
   subst ha
   simp only [St.whole, M.holds_bind]
   rw [M.holds_pure, M.holds_ofOpt]
   exact ⟨[], rfl, M.holds_pure' ⟨_, rfl, rfl⟩⟩
  ·exact (R.ok_fail.1 h2).elim
 | slS x lo hi =>
  simp only [effT] at hx
  rw [R.ok_bind] at hx
  obtain ⟨c, h1, hx⟩ := hx
  simp only [St.effR, M.holds_bind]
  refine M.holds_mono (useO_sim h hg' h1) fun a ha => ?_
  unfold slST at hx
  split at hx
  case h_2 => exact (R.ok_fail.1 hx).elim
  rename_i s
  have ha : a = _ := ha
  subst ha
  rw [R.ok_bind] at hx
  obtain ⟨⟨l, r⟩, h2, hx⟩ := hx
  obtain rfl := R.ok_pure.1 hx
  obtain ⟨b1, b2, b3⟩ := bnd_sim h hg h2
  have e : (⟨s.toArray⟩ : ByteArray).size = s.length := by simp [ByteArray.size]
  simp only [M.holds_bind, e]
  refine M.holds_mono b1 ?_
  rintro _ rfl
  refine M.holds_pure' ⟨_, rfl, ?_⟩
  simp only [TC.av, AV.lit.injEq, Value.string.injEq]
  refine ByteArray.ext ?_
  have key : winL l r s = (s.take (hiN s.length r)).drop (loN l) := by
   cases l with
   | none => cases r with
    | none => simp [winL, loN, hiN]
    | some b => simp [winL, loN, hiN]
   | some a => cases r with
    | none => simp [winL, loN, hiN]
    | some b => simp [winL, loN, hiN]
  rw [key]
  refine Array.toList_inj.1 ?_
  simp [ByteArray.data_extract, List.extract_eq_take_drop, List.drop_take]
 | slK k x lo hi =>
  simp only [effT] at hx
  rw [R.ok_bind] at hx
  obtain ⟨c, h1, hx⟩ := hx
  exact slK_sim h hg hx (useO_sim h hg' h1)
 | fAddr off x =>
  simp only [effT] at hx
  rw [R.ok_bind] at hx
  obtain ⟨c, h1, hx⟩ := hx
  simp only [St.effR, M.holds_bind]
  refine M.holds_mono (useO_sim h hg' h1) fun a ha => ?_
  unfold fAddrT at hx
  split at hx
  ·obtain rfl := R.ok_pure.1 hx
   have ha : a = _ := ha
   subst ha
   exact M.holds_pure' ⟨_, rfl, rfl⟩
  ·obtain rfl := R.ok_pure.1 hx
   have ha : a = _ := ha
   subst ha
   exact M.holds_pure' ⟨_, rfl, rfl⟩
  ·obtain rfl := R.ok_pure.1 hx
   have ha : a = _ := ha
   subst ha
   exact M.holds_pure' ⟨_, rfl, rfl⟩
  ·exact (R.ok_fail.1 hx).elim
 | fld agg off n x =>
  simp only [effT] at hx
  rw [R.ok_bind] at hx
  obtain ⟨l, h1, hx⟩ := hx
  split at hx
  case isFalse => exact (R.ok_fail.1 hx).elim
  rename_i hc
  obtain rfl := R.ok_pure.1 hx
  simp only [St.effR, M.holds_bind]
  refine M.holds_mono (useA_sim h hg' h1) fun s hs => ?_
  obtain ⟨m, rfl, hm⟩ := hs
  have hlen := avs_length hm
  simp only [M.holds_bind, M.holds_need]
  refine ⟨by omega, M.holds_pure' ?_⟩
  rw [sub_eq _ _ _ _ rfl]
  exact mk_sv agg (avs_sub hm off n)
 | ixA k x i =>
  simp only [effT] at hx
  rw [R.ok_bind] at hx
  obtain ⟨n, h1, hx⟩ := hx
  rw [R.ok_bind] at hx
  obtain ⟨c, h2, hx⟩ := hx
  exact ixA_sim h hg hx (useI_sim h hg' h1) (useO_sim h hg' h2)
 | ixAr n k x i =>
  simp only [effT] at hx
  rw [R.ok_bind] at hx
  obtain ⟨m, h1, hx⟩ := hx
  rw [R.ok_bind] at hx
  obtain ⟨_, h2, hx⟩ := hx
  rw [R.ok_bind] at hx
  obtain ⟨c, h3, hx⟩ := hx
  have hb := needG_spec h2 hg
  simp only [St.effR, M.holds_bind]
  refine M.holds_mono (useI_sim h hg' h1) ?_
  rintro _ rfl
  rw [M.holds_need]
  refine ⟨fun _ => hb, M.holds_mono (useO_sim h hg' h3) fun a ha => ?_⟩
  unfold ixArT at hx
  split at hx
  ·split at hx
   case isFalse => exact (R.ok_fail.1 hx).elim
   rename_i hk
   obtain rfl := R.ok_pure.1 hx
   have ha : a = _ := ha
   subst ha hk
   exact M.holds_pure' ⟨_, rfl, by simp [TC.av]⟩
  ·split at hx
   case isFalse => exact (R.ok_fail.1 hx).elim
   rename_i hk
   obtain rfl := R.ok_pure.1 hx
   have ha : a = _ := ha
   subst ha hk
   exact M.holds_pure' ⟨_, rfl, by simp [TC.av]⟩
  ·exact (R.ok_fail.1 hx).elim
 | ixS x i =>
  simp only [effT] at hx
  rw [R.ok_bind] at hx
  obtain ⟨m, h1, hx⟩ := hx
  rw [R.ok_bind] at hx
  obtain ⟨c, h3, hx⟩ := hx
  simp only [St.effR, M.holds_bind]
  refine M.holds_mono (useI_sim h hg' h1) ?_
  rintro _ rfl
  refine M.holds_mono (useO_sim h hg' h3) fun a ha => ?_
  unfold ixST at hx
  split at hx
  case h_2 => exact (R.ok_fail.1 hx).elim
  rename_i s
  have ha : a = _ := ha
  subst ha
  rw [R.ok_bind] at hx
  obtain ⟨_, h2, hx⟩ := hx
  have hb := needG_spec h2 hg
  obtain rfl := R.ok_pure.1 hx
  simp only [M.holds_bind, M.holds_need]
  refine ⟨fun _ => by simpa [ByteArray.size] using hb, M.holds_pure' ⟨_, rfl, by simp [TC.av]⟩⟩
 | ixV agg n k x i =>
  simp only [effT] at hx
  rw [R.ok_bind] at hx
  obtain ⟨m, h1, hx⟩ := hx
  rw [R.ok_bind] at hx
  obtain ⟨l, h2, hx⟩ := hx
  rw [R.ok_bind] at hx
  obtain ⟨d, h3, hx⟩ := hx
  have h3 := R.ok_ofOpt.1 h3
  split at hx
  case isFalse => exact (R.ok_fail.1 hx).elim
  rename_i hc
  obtain ⟨rfl, rfl, hc⟩ := hc
  rw [R.ok_bind] at hx
  obtain ⟨_, h4, hx⟩ := hx
  have hb := needG_spec h4 hg
  obtain rfl := R.ok_pure.1 hx
  simp only [St.effR, M.holds_bind]
  refine M.holds_mono (useI_sim h hg' h1) fun x0 e0 => ?_
  rw [e0]
  clear e0 x0
  refine M.holds_mono (useA_sim h hg' h2) fun s hs => ?_
  obtain ⟨as, rfl, ha⟩ := hs
  have hlen := avs_length ha
  simp only [M.holds_bind, M.holds_need]
  refine ⟨fun _ => hb, by omega, M.holds_pure' ?_⟩
  rw [sub_eq _ _ _ _ rfl, Nat.mul_one]
  have hlt : m.toNat < n := by omega
  have hsel := selC_spec h3 (by simp; omega)
  rw [List.getElem?_take_of_lt hlt] at hsel
  obtain ⟨a, ha1, ha2⟩ := avs_get ha hsel
  rw [one_at ha1]
  exact ⟨a, rfl, ha2⟩
 | lenK x =>
  simp only [effT] at hx
  rw [R.ok_bind] at hx
  obtain ⟨c, h1, hx⟩ := hx
  rw [R.ok_bind] at hx
  obtain ⟨d, h2, hx⟩ := hx
  obtain rfl := R.ok_pure.1 hx
  simp only [St.effR, M.holds_bind]
  refine M.holds_mono (useO_sim h hg' h1) fun a ha => ?_
  refine M.holds_mono (len_sim h h2 ha) ?_
  rintro n rfl
  exact M.holds_pure' ⟨_, rfl, rfl⟩
 | lenS x =>
  simp only [effT] at hx
  rw [R.ok_bind] at hx
  obtain ⟨c, h1, hx⟩ := hx
  simp only [St.effR, M.holds_bind]
  refine M.holds_mono (useO_sim h hg' h1) fun a ha => ?_
  unfold lenST at hx
  split at hx
  case h_2 => exact (R.ok_fail.1 hx).elim
  rename_i s
  have ha : a = _ := ha
  subst ha
  obtain rfl := R.ok_pure.1 hx
  exact M.holds_pure' ⟨_, rfl, by simp [TC.av, ByteArray.size]⟩
 | lenC n =>
  simp only [effT] at hx
  obtain rfl := R.ok_pure.1 hx
  exact M.holds_pure' ⟨_, rfl, rfl⟩
 | mm mx x y =>
  simp only [effT] at hx
  rw [R.ok_bind] at hx
  obtain ⟨c, h1, hx⟩ := hx
  rw [R.ok_bind] at hx
  obtain ⟨d, h2, hx⟩ := hx
  rw [R.ok_bind] at hx
  obtain ⟨r, h3, hx⟩ := hx
  obtain rfl := R.ok_pure.1 hx
  simp only [St.effR, M.holds_bind]
  refine M.holds_mono (useO_sim h hg' h1) fun a ha => ?_
  refine M.holds_mono (useO_sim h hg' h2) fun b hb => ?_
  unfold mmT at h3
  split at h3
  case h_2 => exact (R.ok_fail.1 h3).elim
  have ha : a = _ := ha
  have hb : b = _ := hb
  subst ha hb
  obtain rfl := R.ok_pure.1 h3
  refine M.holds_pure' ⟨_, rfl, ?_⟩
  cases mx <;> rfl
 | mkf f caps =>
  simp only [effT] at hx
  rw [R.ok_bind] at hx
  obtain ⟨l, h1, hx⟩ := hx
  split at hx
  case isFalse => exact (R.ok_fail.1 hx).elim
  rename_i hf
  obtain rfl := R.ok_pure.1 hx
  simp only [St.effR, M.holds_bind]
  refine M.holds_mono (caps_sim h hg h1) fun as ha => ?_
  rw [M.holds_need]
  exact ⟨free_ok hf ha, M.holds_pure' ⟨as, rfl, ha⟩⟩
 | _ => exact (R.ok_fail.1 hx).elim
end
end Go.VS
namespace Go.VS
def onSlot (t : Nat) (p : Place) : Bool := match p.root with
 | .slot t' _ => Nat.beq t' t
 | .obj .. => false
def onObj (p : Place) : Bool := match p.root with
 | .obj .. => true
 | .slot .. => false
def onBox (b : Nat) (p : Place) : Bool := match p.root with
 | .obj b' _ => Nat.beq b' b
 | .slot .. => false
def onRoot : Root → Place → Bool
 | .slot t _ => onSlot t
 | .obj _ _ => onObj
def deep (p : Place) : Bool := match p.path with
 | [] => false
 | _ => true
def noBox : Nat → Bool := fun _ => false
def TSV.setC : TSV → Nat → TC → TSV
 | .one _, 0, d => .one d
 | .agg l, j, d => .agg (l.set j d)
 | v, _, _ => v
def putRoot (F Γ : TS) (qr qa : Place → Bool) (r : Root) (d : TC) : Option TS :=
 match r with
 | .slot t j => match TS.slot F Γ t with
  | some (.val [] v) => TS.upd F Γ qr qa noBox [(t, .val [] ((v.sift qr qa noBox).setC j d))] []
  | _ => none
 | .obj b c => match TS.box F Γ b with
  | some l => TS.upd F Γ qr qa noBox [] [(b, (l.map (TC.sift qr qa noBox)).set c d)]
  | none => none
def setS (F Γ : TS) (t : Nat) (x : TX) : R TS := bif x.guards t || x.hit (onSlot t) (onSlot t) noBox then R.fail else R.ofOpt (TS.upd F Γ (onSlot t) (onSlot t) noBox [(t, x)] [])
def takeC (F : TS) (mem : Bool) (Γ : TS) : TC → R (TC × TS)
 | .ref p _ e w => match p.path, rootT F Γ p.root with
  | [], some (.sl .own tt' e' l) => if e'.size = e.size then (match w with
    | none => (do
     let Γ' ← R.ofOpt (putRoot F Γ (onRoot p.root) (onRoot p.root) p.root .dead)
     pure (.sl .own tt' e' l, Γ'))
    | some (lo, n) => (do
     R.need (lo + n ≤ l.length)
     let Γ' ← R.ofOpt (putRoot F Γ (onRoot p.root) (onRoot p.root) p.root .dead)
     pure (.sl .own tt' e' ((l.drop lo).take n), Γ')))
   else R.fail
  | _, _ => R.fail
 | .adr .. => R.fail
 | .iadr tt e l i c => bif mem then R.fail else pure (.iadr tt e l i c, Γ)
 | .iadrd tt e l i c n j => bif mem then R.fail else pure (.iadrd tt e l i c n j, Γ)
 | .dead => R.fail
 | .sl .own _ _ _ => R.fail
 | c => pure (c, Γ)
def takeCs (F : TS) (mem : Bool) (Γ : TS) : List TC → R (List TC × TS)
 | [] => pure ([], Γ)
 | c :: l => do
  let (d, Γ1) ← takeC F mem Γ c
  let (m, Γ2) ← takeCs F mem Γ1 l
  pure (d :: m, Γ2)
def takeT (F Γ : TS) (mem : Bool) (x : Opd) : R (TSV × TS) := do
 let v ← useT F Γ [] x
 match v with
 | .one c => do
  let (d, Γ') ← takeC F mem Γ c
  pure (.one d, Γ')
 | .agg l => do
  let (m, Γ') ← takeCs F mem Γ l
  pure (.agg m, Γ')
 | .clo f l => bif l.all TC.solidT then pure (.clo f l, Γ) else R.fail
section
variable {μ : Nat → Nat} {F Γ Γ' : TS} {st : St} {qr qa : Place → Bool} {m : Nat → Bool}
theorem upd_gv {ns : List (Nat × TX)} {nb : List (Nat × List TC)} (hu : TS.upd F Γ qr qa m ns nb = some Γ') (hss : ∀ t, (look F.sl t).isSome = true → look Γ.sl t = none) (gd : Gd) (hgd : ∀ p ∈ gd, look ns p.1 = none) : gv F Γ' gd = gv F Γ gd := by
 have hslot := upd_slot hu hss
 refine guards_gv (t0 := fun t => look ns t ≠ none) ?_ gd (fun p hp => by simpa using hgd p hp)
 intro t ht
 have ht : look ns t = none := by simpa using ht
 unfold slotB
 rw [hslot t, ht]
 cases hx : TS.slot F Γ t with
 | none => rfl
 | some x => exact slotB_sift
theorem sift_cells (v : TSV) (j : Nat) {c : TC} (h : (v.sift qr qa m).cells[j]? = some c) : ∃ d, v.cells[j]? = some d ∧ c = d.sift qr qa m := by
 cases v with
 | one d =>
  cases j with
  | zero => simp only [TSV.sift, TSV.cells, List.getElem?_cons_zero, Option.some.injEq] at h ⊢; exact ⟨d, rfl, h.symm⟩
  | succ j => simp [TSV.sift, TSV.cells] at h
 | agg l =>
  simp only [TSV.sift, TSV.cells, List.getElem?_map, Option.map_eq_some_iff] at h ⊢
  obtain ⟨d, h1, h2⟩ := h
  exact ⟨d, h1, h2.symm⟩
 | clo f l => simp [TSV.sift, TSV.cells] at h
theorem upd_ln {ns : List (Nat × TX)} {nb : List (Nat × List TC)} (hu : TS.upd F Γ qr qa m ns nb = some Γ') (hss : ∀ t, (look F.sl t).isSome = true → look Γ.sl t = none) {p : Place}
  (hns : ∀ t j, p.root = .slot t j → look ns t = none) (hnb : ∀ b c, p.root = .obj b c → look nb b = none) {n : Nat} (hn : lnT F Γ' p = some n) : lnT F Γ p = some n := by
 unfold lnT atT at hn ⊢
 cases hr : p.root with
 | slot t j =>
  rw [hr] at hn
  simp only [rootT, upd_slot hu hss t, hns t j hr] at hn ⊢
  cases hs : TS.slot F Γ t with
  | none => rw [hs] at hn; simp at hn
  | some x =>
   rw [hs] at hn
   cases x with
   | val gd v =>
    cases gd with
    | nil =>
     simp only [Option.map_some, TX.sift] at hn ⊢
     cases hc : (v.sift qr qa m).cells[j]? with
     | none => rw [hc] at hn; simp at hn
     | some c =>
      rw [hc, Option.bind_some] at hn
      obtain ⟨d, h1, rfl⟩ := sift_cells v j hc
      rw [h1, Option.bind_some]
      exact d.sift_len p.path n hn
    | cons q gd => simp [TX.sift] at hn
   | tup l => simp [TX.sift] at hn
   | gone => simp [TX.sift] at hn
 | obj b c =>
  rw [hr] at hn
  simp only [rootT, upd_box hu b, hnb b c hr] at hn ⊢
  cases hs : TS.box F Γ b with
  | none => rw [hs] at hn; simp at hn
  | some l =>
   rw [hs] at hn
   simp only [Option.map_some, Option.bind_some, List.getElem?_map] at hn ⊢
   cases hc : l[c]? with
   | none => rw [hc] at hn; simp at hn
   | some d =>
    rw [hc] at hn
    simp only [Option.map_some, Option.bind_some] at hn ⊢
    exact d.sift_len p.path n hn
theorem look_one {α : Type} (t : Nat) (x : α) (t' : Nat) : look [(t, x)] t' = if t = t' then some x else none := by rw [look_cons]; rfl
theorem onSlot_iff {t : Nat} {p : Place} : onSlot t p = true ↔ ∃ j, p.root = .slot t j := by
 unfold onSlot
 cases p.root with
 | slot t' j =>
  simp only [Root.slot.injEq, exists_and_left, exists_eq', and_true]
  exact ⟨fun h => Nat.eq_of_beq_eq_true h, fun h => by subst h; simp⟩
 | obj b c => simp
theorem onObj_iff {p : Place} : onObj p = true ↔ ∃ b c, p.root = .obj b c := by
 unfold onObj
 cases p.root <;> simp
theorem onBox_iff {b : Nat} {p : Place} : onBox b p = true ↔ ∃ c, p.root = .obj b c := by
 unfold onBox
 cases p.root with
 | obj t' j =>
  simp only [Root.obj.injEq, exists_and_left, exists_eq', and_true]
  exact ⟨fun h => Nat.eq_of_beq_eq_true h, fun h => by subst h; simp⟩
 | slot b c => simp
theorem set_sim (h : Sim μ F Γ st) {t : Nat} {x : TX} (hu : (setS F Γ t x).ok Γ') {y : TV} (hx : x.tv μ st.ver (lnT F Γ) (gv F Γ) y) : Sim μ F Γ' (st.set t y) := by
 unfold setS at hu
 cases hb : (x.guards t || x.hit (onSlot t) (onSlot t) noBox) with
 | true => rw [hb] at hu; exact (R.ok_fail.1 hu).elim
 | false =>
  rw [hb] at hu
  have hu := R.ok_ofOpt.1 hu
  simp only [Bool.or_eq_false_iff] at hb
  have hver : ∀ p, onSlot t p = false → (st.set t y).ver (p.mu μ).root = st.ver (p.mu μ).root := by
   intro p hp
   cases hr : p.root with
   | slot t' j =>
    have hne : t' ≠ t := by rintro rfl; rw [onSlot_iff.2 ⟨j, hr⟩] at hp; cases hp
    simp only [Place.mu, hr, Root.mu, St.ver, St.set]
    split
    ·simp [upd, hne]
    ·rfl
   | obj b c => simp only [Place.mu, hr, Root.mu, St.ver, St.set]
  have T : Tr (onSlot t) (onSlot t) noBox μ μ st.ver (st.set t y).ver (lnT F Γ) (lnT F Γ') := by
   refine ⟨fun _ _ => rfl, fun p hp => ⟨rfl, hver p hp, fun n hn => ?_⟩, fun p hp => ⟨rfl, hver p hp⟩⟩
   refine upd_ln hu h.ss (fun t' j hr => ?_) (fun _ _ _ => rfl) hn
   rw [look_one, if_neg]
   rintro rfl
   rw [onSlot_iff.2 ⟨j, hr⟩] at hp; cases hp
  refine h.upd hu T ?_ ?_ (fun _ _ _ _ => rfl) (fun _ _ h => nomatch h) (fun _ h => nomatch h) (fun _ _ _ _ h => nomatch h) (Nat.le_refl _)
  ·intro t' ht'
   rw [look_one] at ht'
   split at ht'
   ·cases ht'
   ·rename_i hne; simp [St.set, upd, Ne.symm hne]
  ·intro t' x' hx'
   rw [look_one] at hx'
   split at hx'
   case isFalse => cases hx'
   rename_i ht
   cases hx'
   subst ht
   have e : (st.set t y).sl t = y := by simp [St.set, upd]
   rw [e, ← TX.sift_id hb.2]
   refine T.tv ?_ hx
   rintro gd v rfl
   refine upd_gv hu h.ss gd fun p hp => ?_
   rw [look_one, if_neg]
   intro he
   have : (TX.val gd v).guards t = true := List.any_eq_true.2 ⟨p, hp, by simp [he]⟩
   rw [this] at hb
   cases hb.1
theorem setC_sv {ver : Root → Nat} {ln : Place → Option Nat} {v : TSV} {s : SV} (hv : v.sv μ ver ln s) {j : Nat} {c : TC} (hc : v.cells[j]? = some c) {d : TC} {b : AV} (hd : d.av μ ver ln b) : (v.setC j d).sv μ ver ln (s.setCell j b) := by
 cases v with
 | one c0 =>
  obtain ⟨a, rfl, ha⟩ := hv
  cases j with
  | zero => exact ⟨b, rfl, hd⟩
  | succ j => simp [TSV.cells] at hc
 | agg l =>
  obtain ⟨k, rfl, ha⟩ := hv
  exact ⟨_, rfl, avs_set ha j hd⟩
 | clo f l => simp [TSV.cells] at hc
theorem putRoot_sim (h : Sim μ F Γ st) {r : Root} {c d : TC} (hu : putRoot F Γ qr qa r d = some Γ') (hr : rootT F Γ r = some c) {b : AV} {st' : St} (hsl : st'.sl = (st.setRoot (r.mu μ) b).sl) (hhp : st'.hp = (st.setRoot (r.mu μ) b).hp)
  (hver : ∀ p, qr p = false → st'.ver (p.mu μ).root = st.ver (p.mu μ).root) (hvera : ∀ p, qa p = false → st'.ver (p.mu μ).root = st.ver (p.mu μ).root)
  (hln : ∀ p, qr p = false → p.root = r → ∀ n, lnT F Γ' p = some n → lnT F Γ p = some n) (hd : d.av μ st'.ver (lnT F Γ') b) (hsol : d.solidT = true ∨ ∃ t j, r = .slot t j) :
  Sim μ F Γ' st' := by
 have lnsame : ∀ {ns : List (Nat × TX)} {nb : List (Nat × List TC)}, TS.upd F Γ qr qa noBox ns nb = some Γ' → ∀ p : Place, (∀ t j, p.root = .slot t j → look ns t = none) → (∀ b c, p.root = .obj b c → look nb b = none) → ∀ n, lnT F Γ' p = some n → lnT F Γ p = some n :=
  fun hu p h1 h2 n hn => upd_ln hu h.ss h1 h2 hn
 cases r with
 | slot t j =>
  simp only [putRoot] at hu
  split at hu
  case h_2 => cases hu
  rename_i v hs
  simp only [rootT, hs] at hr
  obtain ⟨s, heq, hv⟩ := h.sl t _ hs
  simp only [gv] at heq
  have lnslot : ∀ p : Place, qr p = false → ∀ n, lnT F Γ' p = some n → lnT F Γ p = some n := by
   intro p hp n hn
   cases hpr : p.root with
   | obj b c => exact lnsame hu p (fun t' j' e => by rw [hpr] at e; cases e) (fun _ _ _ => rfl) n hn
   | slot t' j' =>
    by_cases ht : t' = t
    ·subst ht
     by_cases hj : j' = j
     ·subst hj; exact hln p hp hpr n hn
     ·unfold lnT atT at hn ⊢
      rw [hpr] at hn ⊢
      simp only [rootT, upd_slot hu h.ss, look_one, if_true, hs] at hn ⊢
      have e : ((v.sift qr qa noBox).setC j d).cells[j']? = (v.sift qr qa noBox).cells[j']? := by
       cases v with
       | one c0 =>
        cases j with
        | zero => cases j' with
         | zero => exact (hj rfl).elim
         | succ j' => rfl
        | succ j => rfl
       | agg l => simp only [TSV.sift, TSV.setC, TSV.cells]; rw [List.getElem?_set_ne (Ne.symm hj)]
       | clo f l => rfl
      rw [e] at hn
      cases hc : (v.sift qr qa noBox).cells[j']? with
      | none => rw [hc] at hn; simp at hn
      | some c0 =>
       rw [hc, Option.bind_some] at hn
       obtain ⟨d0, h1, rfl⟩ := sift_cells v j' hc
       rw [h1, Option.bind_some]
       exact d0.sift_len p.path n hn
    ·refine lnsame hu p (fun t'' j'' e => ?_) (fun _ _ _ => rfl) n hn
     rw [hpr] at e; cases e
     rw [look_one, if_neg (Ne.symm ht)]
  have T : Tr qr qa noBox μ μ st.ver st'.ver (lnT F Γ) (lnT F Γ') := ⟨fun _ _ => rfl, fun p hp => ⟨rfl, hver p hp, lnslot p hp⟩, fun p hp => ⟨rfl, hvera p hp⟩⟩
  refine h.upd hu T ?_ ?_ (fun b l _ _ => by rw [hhp]; rfl) (fun _ _ h => nomatch h) (fun _ h => nomatch h) (fun _ _ _ _ h => nomatch h) (by rw [hhp]; exact Nat.le_refl _)
  ·intro t' ht'
   rw [look_one] at ht'
   split at ht'
   ·cases ht'
   ·rename_i hne; rw [hsl]; simp [Root.mu, St.setRoot, upd, Ne.symm hne]
  ·intro t' x' hx'
   rw [look_one] at hx'
   split at hx'
   case isFalse => cases hx'
   rename_i ht
   cases hx'
   subst ht
   rw [hsl]
   have e : (st.setRoot ((Root.slot t j).mu μ) b).sl t = .val true (s.setCell j b) := by simp [Root.mu, St.setRoot, upd, heq, TV.setCell]
   rw [e]
   refine ⟨_, rfl, ?_⟩
   have hc : ∃ c', (v.sift qr qa noBox).cells[j]? = some c' := by
    cases v with
    | one c0 => cases j with
     | zero => exact ⟨_, rfl⟩
     | succ j => simp [TSV.cells] at hr
    | agg l => simp only [TSV.sift, TSV.cells, List.getElem?_map] at hr ⊢; rw [hr]; exact ⟨_, rfl⟩
    | clo f l => simp [TSV.cells] at hr
   obtain ⟨c', hc'⟩ := hc
   exact setC_sv (T.sv hv) hc' hd
 | obj b0 c0 =>
  simp only [putRoot] at hu
  split at hu
  case h_2 => cases hu
  rename_i l hs
  simp only [rootT, hs, Option.bind_some] at hr
  obtain ⟨k, q1, q2, q3, q4⟩ := h.bx b0 l hs
  have lnslot : ∀ p : Place, qr p = false → ∀ n, lnT F Γ' p = some n → lnT F Γ p = some n := by
   intro p hp n hn
   cases hpr : p.root with
   | slot b c => exact lnsame hu p (fun _ _ _ => rfl) (fun t' j' e => by rw [hpr] at e; cases e) n hn
   | obj t' j' =>
    by_cases ht : t' = b0
    ·subst ht
     by_cases hj : j' = c0
     ·subst hj; exact hln p hp hpr n hn
     ·unfold lnT atT at hn ⊢
      rw [hpr] at hn ⊢
      simp only [rootT, upd_box hu, look_one, if_true, hs, Option.bind_some] at hn ⊢
      rw [List.getElem?_set_ne (Ne.symm hj), List.getElem?_map] at hn
      cases hc : l[j']? with
      | none => rw [hc] at hn; simp at hn
      | some d0 =>
       rw [hc] at hn
       simp only [Option.map_some, Option.bind_some] at hn ⊢
       exact d0.sift_len p.path n hn
    ·refine lnsame hu p (fun _ _ _ => rfl) (fun t'' j'' e => ?_) n hn
     rw [hpr] at e; cases e
     rw [look_one, if_neg (Ne.symm ht)]
  have T : Tr qr qa noBox μ μ st.ver st'.ver (lnT F Γ) (lnT F Γ') := ⟨fun _ _ => rfl, fun p hp => ⟨rfl, hver p hp, lnslot p hp⟩, fun p hp => ⟨rfl, hvera p hp⟩⟩
  have ehp : st'.hp = st.hp.set (μ b0) (k.set c0 b) := by rw [hhp]; simp [Root.mu, St.setRoot, q1]
  have esl : st'.sl = st.sl := by rw [hsl]; simp [Root.mu, St.setRoot, q1]
  refine h.upd hu T (fun t _ => by rw [esl]) (fun _ _ h => nomatch h) ?_ ?_ (fun _ h => nomatch h) ?_ (by rw [ehp]; exact Nat.le_refl _)
  ·intro b l' hb hl'
   rw [look_one] at hb
   split at hb
   ·cases hb
   ·rename_i hne
    rw [ehp]
    have : μ b ≠ μ b0 := fun e => hne (h.inj b0 b l l' hs hl' e.symm)
    simp [Heap.set, upd, this]
  ·intro b l' hb
   rw [look_one] at hb
   split at hb
   case isFalse => cases hb
   rename_i hbb
   cases hb
   subst hbb
   refine ⟨k.set c0 b, by rw [ehp]; simp [Heap.set, upd], avs_set (T.avs q2) c0 hd, by rw [ehp]; exact q3, ?_⟩
   have hds : d.solidT = true := hsol.resolve_right (fun ⟨t, j, e⟩ => nomatch e)
   rw [List.all_eq_true]
   intro x hx
   rcases List.mem_or_eq_of_mem_set hx with hx | rfl
   ·obtain ⟨y, hy, rfl⟩ := List.mem_map.1 hx
    exact TC.solid_sift (List.all_eq_true.1 q4 y hy)
   ·exact hds
  ·intro b b' l1 l' hb hb' he
   rw [look_one] at hb
   split at hb
   case isFalse => cases hb
   rename_i hbb
   subst hbb
   rw [upd_box hu b', look_one] at hb'
   by_cases e : b0 = b'
   ·exact e
   ·rw [if_neg e] at hb'
    simp only [Option.map_eq_some_iff] at hb'
    obtain ⟨l2, h2, _⟩ := hb'
    exact h.inj _ _ _ _ hs h2 he
end
end Go.VS
namespace Go.VS
theorem bumps_append : ∀ (rs rs' : List Root) (st : St), st.bumps (rs ++ rs') = (st.bumps rs).bumps rs'
 | [], _, _ => rfl
 | r :: rs, rs', st => bumps_append rs rs' (st.bump r)
theorem bump_congr {st st' : St} (h1 : st'.vs = st.vs) (h2 : st'.hv = st.hv) (r : Root) : (st'.bump r).vs = (st.bump r).vs ∧ (st'.bump r).hv = (st.bump r).hv := by
 cases r <;> simp [St.bump, h1, h2]
theorem bumps_congr : ∀ (rs : List Root) {st st' : St}, st'.vs = st.vs → st'.hv = st.hv → (st'.bumps rs).vs = (st.bumps rs).vs ∧ (st'.bumps rs).hv = (st.bumps rs).hv
 | [], _, _, h1, h2 => ⟨h1, h2⟩
 | r :: rs, st, st', h1, h2 => by
  have := bump_congr h1 h2 r
  exact bumps_congr rs this.1 this.2
theorem setRoot_ver (st : St) (r : Root) (b : AV) : (st.setRoot r b).vs = st.vs ∧ (st.setRoot r b).hv = st.hv := by
 cases r with
 | slot t j => exact ⟨rfl, rfl⟩
 | obj o c => simp only [St.setRoot]; split <;> exact ⟨rfl, rfl⟩
theorem setRoot_fields {st1 st2 : St} (h1 : st1.sl = st2.sl) (h2 : st1.hp = st2.hp) (r : Root) (b : AV) : (st1.setRoot r b).sl = (st2.setRoot r b).sl ∧ (st1.setRoot r b).hp = (st2.setRoot r b).hp := by
 cases r with
 | slot t j => simp [St.setRoot, h1, h2]
 | obj o c => simp only [St.setRoot, h2]; split <;> simp [h1, h2]
theorem bump_ver_other (st : St) (r r' : Root) (h : ∀ t j, r = .slot t j → ∀ j', r' ≠ .slot t j') (h2 : ∀ o c, r = .obj o c → ∀ o' c', r' ≠ .obj o' c') : (st.bump r).ver r' = st.ver r' := by
 cases r with
 | slot t j =>
  cases r' with
  | slot t' j' =>
   have : t' ≠ t := by rintro rfl; exact h _ _ rfl _ rfl
   simp [St.bump, St.ver, upd, this]
  | obj => rfl
 | obj o c =>
  cases r' with
  | slot => rfl
  | obj o' c' => exact (h2 _ _ rfl _ _ rfl).elim
theorem onRoot_ver (st : St) {μ : Nat → Nat} {r : Root} {p : Place} (h : onRoot r p = false) : (st.bump (r.mu μ)).ver (p.mu μ).root = st.ver (p.mu μ).root := by
 refine bump_ver_other st _ _ ?_ ?_
 ·intro t j e j' e'
  cases r with
  | slot t0 j0 =>
   have e1 : t0 = t := by simpa [Root.mu] using congrArg (fun r => match r with | Root.slot t _ => t | _ => 0) e
   subst e1
   have : onSlot t0 p = false := h
   cases hr : p.root with
   | slot t1 j1 =>
    simp only [Place.mu, hr, Root.mu, Root.slot.injEq] at e'
    rw [onSlot_iff.2 ⟨j1, by rw [hr, e'.1]⟩] at this; cases this
   | obj b c => simp [Place.mu, hr, Root.mu] at e'
  | obj b c => cases e
 ·intro t j e j' c' e'
  cases r with
  | slot t0 j0 => cases e
  | obj b c =>
   have : onObj p = false := h
   cases hr : p.root with
   | slot t1 j1 => simp [Place.mu, hr, Root.mu] at e'
   | obj b' c2 => rw [onObj_iff.2 ⟨b', c2, hr⟩] at this; cases this
theorem onRoot_self {r : Root} {p : Place} (h : p.root = r) : onRoot r p = true := by
 cases r with
 | slot t j => exact onSlot_iff.2 ⟨j, h⟩
 | obj b c => exact onObj_iff.2 ⟨b, c, h⟩
section
variable {μ : Nat → Nat} {F Γ Γ' : TS} {st : St} {qr qa : Place → Bool}
theorem putRoot_root (hss : ∀ t, (look F.sl t).isSome = true → look Γ.sl t = none) {r : Root} {d : TC} (hu : putRoot F Γ qr qa r d = some Γ') {c : TC} (hc : rootT F Γ' r = some c) : c = d := by
 cases r with
 | slot t j =>
  simp only [putRoot] at hu
  split at hu
  case h_2 => cases hu
  rename_i v hs
  simp only [rootT, upd_slot hu hss, look_one, if_true] at hc
  cases v with
  | one c0 =>
   cases j with
   | zero => simpa [TSV.sift, TSV.setC, TSV.cells] using hc.symm
   | succ j => simp [TSV.sift, TSV.setC, TSV.cells] at hc
  | agg l =>
   simp only [TSV.sift, TSV.setC, TSV.cells] at hc
   rw [List.getElem?_set] at hc
   simp only [if_true] at hc
   split at hc
   ·exact (Option.some.inj hc).symm
   ·cases hc
  | clo f l => simp [TSV.sift, TSV.setC, TSV.cells] at hc
 | obj b0 c0 =>
  simp only [putRoot] at hu
  split at hu
  case h_2 => cases hu
  simp only [rootT, upd_box hu, look_one, if_true, Option.bind_some] at hc
  rw [List.getElem?_set] at hc
  simp only [if_true] at hc
  split at hc
  ·exact (Option.some.inj hc).symm
  ·cases hc
theorem putRoot_ln (hss : ∀ t, (look F.sl t).isSome = true → look Γ.sl t = none) {r : Root} {d : TC} (hu : putRoot F Γ qr qa r d = some Γ') {p : Place} {n : Nat} (hp : p.root = r → lnT F Γ p = some n) (hn : lnT F Γ' p = some n) : lnT F Γ p = some n := by
 by_cases hpr : p.root = r
 ·exact hp hpr
 cases r with
 | slot t j =>
  simp only [putRoot] at hu
  split at hu
  case h_2 => cases hu
  rename_i v hs
  cases hr : p.root with
  | obj b c => exact upd_ln hu hss (fun t' j' e => by rw [hr] at e; cases e) (fun _ _ _ => rfl) hn
  | slot t' j' =>
   by_cases ht : t' = t
   ·subst ht
    have hj : j ≠ j' := by rintro rfl; exact hpr hr
    unfold lnT atT at hn ⊢
    rw [hr] at hn ⊢
    simp only [rootT, upd_slot hu hss, look_one, if_true, hs] at hn ⊢
    have e : ((v.sift qr qa noBox).setC j d).cells[j']? = (v.sift qr qa noBox).cells[j']? := by
     cases v with
     | one c0 =>
      cases j with
      | zero => cases j' with
       | zero => exact (hj rfl).elim
       | succ j' => rfl
      | succ j => rfl
     | agg l => simp only [TSV.sift, TSV.setC, TSV.cells]; rw [List.getElem?_set_ne hj]
     | clo f l => rfl
    rw [e] at hn
    cases hc : (v.sift qr qa noBox).cells[j']? with
    | none => rw [hc] at hn; simp at hn
    | some c0 =>
     rw [hc, Option.bind_some] at hn
     obtain ⟨d0, h1, rfl⟩ := sift_cells v j' hc
     rw [h1, Option.bind_some]
     exact d0.sift_len p.path n hn
   ·refine upd_ln hu hss (fun t'' j'' e => ?_) (fun _ _ _ => rfl) hn
    rw [hr] at e; cases e
    rw [look_one, if_neg (Ne.symm ht)]
 | obj b0 c0 =>
  simp only [putRoot] at hu
  split at hu
  case h_2 => cases hu
  rename_i l hs
  cases hr : p.root with
  | slot b c => exact upd_ln hu hss (fun _ _ _ => rfl) (fun t' j' e => by rw [hr] at e; cases e) hn
  | obj t' j' =>
   by_cases ht : t' = b0
   ·subst ht
    have hj : c0 ≠ j' := by rintro rfl; exact hpr hr
    unfold lnT atT at hn ⊢
    rw [hr] at hn ⊢
    simp only [rootT, upd_box hu, look_one, if_true, hs, Option.bind_some] at hn ⊢
    rw [List.getElem?_set_ne hj, List.getElem?_map] at hn
    cases hc : l[j']? with
    | none => rw [hc] at hn; simp at hn
    | some d0 =>
     rw [hc] at hn
     simp only [Option.map_some, Option.bind_some] at hn ⊢
     exact d0.sift_len p.path n hn
   ·refine upd_ln hu hss (fun _ _ _ => rfl) (fun t'' j'' e => ?_) hn
    rw [hr] at e; cases e
    rw [look_one, if_neg (Ne.symm ht)]
theorem av_ln {ver : Root → Nat} {ln ln' : Place → Option Nat} (hl : ∀ p n, ln' p = some n → ln p = some n) {c : TC} {a : AV} (h : c.av μ ver ln a) : c.av μ ver ln' a := by
 cases c with
 | ref p tt e w =>
  cases w with
  | none => obtain ⟨m, h1, h2⟩ := h; exact ⟨m, h1, fun n hn => h2 n (hl p n hn)⟩
  | some x => exact h
 | _ => exact h
theorem avs_ln {ver : Root → Nat} {ln ln' : Place → Option Nat} (hl : ∀ p n, ln' p = some n → ln p = some n) : ∀ {l : List TC} {k : List AV}, avs μ ver ln l k → avs μ ver ln' l k
 | [], [], _ => trivial
 | c :: l, a :: k, h => ⟨av_ln hl h.1, avs_ln hl h.2⟩
 | [], _ :: _, h => h.elim
 | _ :: _, [], h => h.elim
theorem takeC_sim {rs : List Root} {v0 : Root → Nat} {mem : Bool} (h : Sim μ F Γ (st.bumps rs)) {c c' : TC} {a : AV} (ha : c.av μ v0 (lnT F Γ) a) (hx : (takeC F mem Γ c).ok (c', Γ')) :
  (st.takeCell v0 mem a).holds fun (b, st', rs') => c'.av μ v0 (lnT F Γ') b ∧ Sim μ F Γ' (st'.bumps (rs ++ rs')) ∧ ∀ p n, lnT F Γ' p = some n → lnT F Γ p = some n := by
 have same : (st.takeCell v0 mem a = pure (a, st, [])) → c' = c → Γ' = Γ → (st.takeCell v0 mem a).holds fun (b, st', rs') => c'.av μ v0 (lnT F Γ') b ∧ Sim μ F Γ' (st'.bumps (rs ++ rs')) ∧ ∀ p n, lnT F Γ' p = some n → lnT F Γ p = some n := by
  rintro e rfl rfl
  rw [e]
  exact M.holds_pure' ⟨ha, by simpa using h, fun _ _ h => h⟩
 cases c with
 | ref p tt0 e w =>
  simp only [takeC] at hx
  split at hx
  case h_2 => exact (R.ok_fail.1 hx).elim
  rename_i tt' e' l hp hr
  split at hx
  case isFalse => exact (R.ok_fail.1 hx).elim
  rename_i hk
  have hat : (atT F Γ p) = some (.sl .own tt' e' l) := by simp [atT, hr, hp, TC.atS]
  have hln : lnT F Γ p = some l.length := by simp [lnT, hat, TC.len?]
  obtain ⟨b0, hb0, hbv⟩ := root_sim h hr
  have hbv : b0 = _ := hbv
  subst hbv
  have hroot : st.root (p.root.mu μ) = some (.sl .own e'.size (l.map (e'.enc tt'))) := by
   rw [← hb0]
   have := bumps_fields st rs
   cases p.root with
   | slot t j => simp [Root.mu, St.root, this.1]
   | obj b c => simp [Root.mu, St.root, this.2]
  have hstat : st.at (p.mu μ) = some (.sl .own e'.size (l.map (e'.enc tt'))) := by
   simp only [St.at, Place.mu, hroot, hp, Option.bind_some]; rfl
  have hput : st.putAt (p.mu μ) .dead = st.setRoot (p.root.mu μ) .dead := by
   simp only [St.putAt, Place.mu, hroot, hp, AV.put]
  have fin : ∀ {Γ2 : TS}, putRoot F Γ (onRoot p.root) (onRoot p.root) p.root .dead = some Γ2 → Sim μ F Γ2 ((st.putAt (p.mu μ) .dead).bumps (rs ++ [p.root.mu μ])) ∧ ∀ q n, lnT F Γ2 q = some n → lnT F Γ q = some n := by
   intro Γ2 hu
   have dead : ∀ q : Place, q.root = p.root → lnT F Γ2 q = none := by
    intro q hq
    unfold lnT atT
    rw [hq]
    cases hc : rootT F Γ2 p.root with
    | none => rfl
    | some c =>
     have := putRoot_root h.ss hu hc
     subst this
     cases q.path <;> simp [TC.atS, TC.len?]
   refine ⟨?_, ?_⟩
   ·refine putRoot_sim h hu hr (b := .dead) ?_ ?_ ?_ ?_ ?_ trivial (.inl rfl)
    ·rw [(bumps_fields _ _).1, hput]
     exact (setRoot_fields (bumps_fields st rs).1.symm (bumps_fields st rs).2.symm _ _).1
    ·rw [(bumps_fields _ _).2, hput]
     exact (setRoot_fields (bumps_fields st rs).1.symm (bumps_fields st rs).2.symm _ _).2
    ·intro q hq
     rw [bumps_append, hput]
     have e1 := bumps_congr rs (setRoot_ver st (p.root.mu μ) .dead).1 (setRoot_ver st (p.root.mu μ) .dead).2
     rw [show (((st.setRoot (p.root.mu μ) .dead).bumps rs).bumps [p.root.mu μ]) = ((st.setRoot (p.root.mu μ) .dead).bumps rs).bump (p.root.mu μ) from rfl, onRoot_ver _ hq]
     exact ver_of_fields e1.1 e1.2 _
    ·intro q hq
     rw [bumps_append, hput]
     have e1 := bumps_congr rs (setRoot_ver st (p.root.mu μ) .dead).1 (setRoot_ver st (p.root.mu μ) .dead).2
     rw [show (((st.setRoot (p.root.mu μ) .dead).bumps rs).bumps [p.root.mu μ]) = ((st.setRoot (p.root.mu μ) .dead).bumps rs).bump (p.root.mu μ) from rfl, onRoot_ver _ hq]
     exact ver_of_fields e1.1 e1.2 _
    ·intro q hq hqr n hn
     rw [dead q hqr] at hn; cases hn
   ·intro q n hn
    refine putRoot_ln h.ss hu (fun hq => ?_) hn
    rw [dead q hq] at hn; cases hn
  cases w with
  | none =>
   have ha : a = _ := ref_eq ha hln
   subst ha
   dsimp only at hx
   rw [R.ok_bind] at hx
   obtain ⟨Γ2, h1, hx⟩ := hx
   have h1 := R.ok_ofOpt.1 h1
   have := R.ok_pure.1 hx
   cases this
   obtain ⟨f1, f2⟩ := fin h1
   simp only [St.takeCell, hstat, M.holds_bind, M.holds_need]
   refine ⟨trivial, hk, by simp, M.holds_pure' ⟨?_, f1, f2⟩⟩
   show AV.sl .own _ _ = _
   rw [hk]
   unfold window
   simp
  | some y =>
   obtain ⟨lo, n⟩ := y
   have ha : a = _ := ha
   subst ha
   dsimp only at hx
   rw [R.ok_bind] at hx
   obtain ⟨_, h0, hx⟩ := hx
   have h0 := R.ok_need.1 h0
   rw [R.ok_bind] at hx
   obtain ⟨Γ2, h1, hx⟩ := hx
   have h1 := R.ok_ofOpt.1 h1
   have := R.ok_pure.1 hx
   cases this
   obtain ⟨f1, f2⟩ := fin h1
   simp only [St.takeCell, hstat, M.holds_bind, M.holds_need]
   refine ⟨trivial, hk, by simpa using h0, M.holds_pure' ⟨?_, f1, f2⟩⟩
   show AV.sl .own _ _ = _
   rw [hk]
   unfold window
   split
   ·rename_i he
    obtain ⟨h3, h4⟩ := he
    subst h3
    simp only [List.length_map] at h4
    subst h4
    simp
   ·simp
 | adr p tt e i c => exact (R.ok_fail.1 hx).elim
 | iadr tt e l i c =>
  have ha : a = _ := ha
  subst ha
  cases mem with
  | true => exact (R.ok_fail.1 hx).elim
  | false => have := R.ok_pure.1 hx; cases this; exact same rfl rfl rfl
 | iadrd tt e l i c n j =>
  have ha : a = _ := ha
  subst ha
  cases mem with
  | true => exact (R.ok_fail.1 hx).elim
  | false => have := R.ok_pure.1 hx; cases this; exact same rfl rfl rfl
 | dead => exact (R.ok_fail.1 hx).elim
 | sl τ tt e l =>
  have ha : a = _ := ha
  subst ha
  cases τ with
  | own => exact (R.ok_fail.1 hx).elim
  | imm => have := R.ok_pure.1 hx; cases this; exact same rfl rfl rfl
  | brw => have := R.ok_pure.1 hx; cases this; exact same rfl rfl rfl
 | _ =>
  have ha : a = _ := ha
  subst ha
  have := R.ok_pure.1 hx
  cases this
  exact same rfl rfl rfl
theorem takeCs_sim {v0 : Root → Nat} {mem : Bool} : ∀ {l l' : List TC} {as : List AV} {rs : List Root} {st : St} {Γ Γ' : TS}, Sim μ F Γ (st.bumps rs) → avs μ v0 (lnT F Γ) l as → (takeCs F mem Γ l).ok (l', Γ') →
  (st.takeCells v0 mem as).holds fun (bs, st', rs') => avs μ v0 (lnT F Γ') l' bs ∧ Sim μ F Γ' (st'.bumps (rs ++ rs')) ∧ (∀ p n, lnT F Γ' p = some n → lnT F Γ p = some n) ∧ bs.length = as.length
 | [], l', [], rs, st, Γ, Γ', h, ha, hx => by
  have := R.ok_pure.1 hx
  cases this
  simp only [St.takeCells]
  exact M.holds_pure' ⟨trivial, by simpa using h, fun _ _ h => h, rfl⟩
 | c :: l, l', a :: as, rs, st, Γ, Γ', h, ha, hx => by
  simp only [takeCs] at hx
  rw [R.ok_bind] at hx
  obtain ⟨⟨d, Γ1⟩, h1, hx⟩ := hx
  rw [R.ok_bind] at hx
  obtain ⟨⟨m, Γ2⟩, h2, hx⟩ := hx
  have := R.ok_pure.1 hx
  cases this
  simp only [St.takeCells, M.holds_bind]
  refine M.holds_mono (takeC_sim h ha.1 h1) ?_
  rintro ⟨b, st1, rs1⟩ ⟨k1, k2, k3⟩
  refine M.holds_mono (takeCs_sim k2 (avs_ln k3 ha.2) h2) ?_
  rintro ⟨bs, st2, rs2⟩ ⟨m1, m2, m3, m4⟩
  exact M.holds_pure' ⟨⟨av_ln m3 k1, m1⟩, by rw [← List.append_assoc]; exact m2, fun p n hn => k3 p n (m3 p n hn), by simp [m4]⟩
 | [], _, _ :: _, _, _, _, _, _, h, _ => h.elim
 | _ :: _, _, [], _, _, _, _, _, h, _ => h.elim
def TSV.solidV : TSV → Bool
 | .one c => c.solidT
 | .agg l => l.all TC.solidT
 | .clo _ l => l.all TC.solidT
theorem takeC_solid {mem : Bool} {c c' : TC} (hx : (takeC F mem Γ c).ok (c', Γ')) : c'.solidT = true := by
 cases c with
 | ref p tt0 e w =>
  simp only [takeC] at hx
  split at hx
  case h_2 => exact (R.ok_fail.1 hx).elim
  split at hx
  case isFalse => exact (R.ok_fail.1 hx).elim
  cases w with
  | none =>
   dsimp only at hx
   rw [R.ok_bind] at hx
   obtain ⟨Γ2, h1, hx⟩ := hx
   have := R.ok_pure.1 hx
   cases this
   rfl
  | some y =>
   obtain ⟨lo, n⟩ := y
   dsimp only at hx
   rw [R.ok_bind] at hx
   obtain ⟨_, h0, hx⟩ := hx
   rw [R.ok_bind] at hx
   obtain ⟨Γ2, h1, hx⟩ := hx
   have := R.ok_pure.1 hx
   cases this
   rfl
 | adr p tt e i c => exact (R.ok_fail.1 hx).elim
 | iadr tt e l i c =>
  cases mem with
  | true => exact (R.ok_fail.1 hx).elim
  | false => have := R.ok_pure.1 hx; cases this; rfl
 | iadrd tt e l i c n j =>
  cases mem with
  | true => exact (R.ok_fail.1 hx).elim
  | false => have := R.ok_pure.1 hx; cases this; rfl
 | dead => exact (R.ok_fail.1 hx).elim
 | sl τ tt e l =>
  cases τ with
  | own => exact (R.ok_fail.1 hx).elim
  | imm => have := R.ok_pure.1 hx; cases this; rfl
  | brw => have := R.ok_pure.1 hx; cases this; rfl
 | _ =>
  have := R.ok_pure.1 hx
  cases this
  rfl
theorem takeCs_solid {mem : Bool} : ∀ {l l' : List TC} {Γ Γ' : TS}, (takeCs F mem Γ l).ok (l', Γ') → l'.all TC.solidT = true
 | [], l', Γ, Γ', hx => by
  have := R.ok_pure.1 hx
  cases this
  rfl
 | c :: l, l', Γ, Γ', hx => by
  simp only [takeCs] at hx
  rw [R.ok_bind] at hx
  obtain ⟨⟨d, Γ1⟩, h1, hx⟩ := hx
  rw [R.ok_bind] at hx
  obtain ⟨⟨m, Γ2⟩, h2, hx⟩ := hx
  have := R.ok_pure.1 hx
  cases this
  simp [takeC_solid h1, takeCs_solid h2]
theorem solid_av' {ver ver' : Root → Nat} {ln ln' : Place → Option Nat} {c : TC} (hs : c.solidT = true) {a : AV} (h : c.av μ ver ln a) : c.av μ ver' ln' a := by
 cases c with
 | ref => cases hs
 | adr => cases hs
 | _ => exact h
theorem solid_avs {ver ver' : Root → Nat} {ln ln' : Place → Option Nat} : ∀ {l : List TC}, l.all TC.solidT = true → ∀ {k : List AV}, avs μ ver ln l k → avs μ ver' ln' l k
 | [], _, [], _ => trivial
 | c :: l, hs, a :: k, h => by
  simp only [List.all_cons, Bool.and_eq_true] at hs
  exact ⟨solid_av' hs.1 h.1, solid_avs hs.2 h.2⟩
 | [], _, _ :: _, h => h.elim
 | _ :: _, _, [], h => h.elim
theorem solid_sv {ver ver' : Root → Nat} {ln ln' : Place → Option Nat} {v : TSV} (hs : v.solidV = true) {s : SV} (h : v.sv μ ver ln s) : v.sv μ ver' ln' s := by
 cases v with
 | one c => obtain ⟨a, e, h⟩ := h; exact ⟨a, e, solid_av' hs h⟩
 | agg l => obtain ⟨a, e, h⟩ := h; exact ⟨a, e, solid_avs hs h⟩
 | clo f l => obtain ⟨a, e, h⟩ := h; exact ⟨a, e, solid_avs hs h⟩
theorem take_sim (h : Sim μ F Γ st) {mem : Bool} {x : Opd} {v : TSV} (hx : (takeT F Γ mem x).ok (v, Γ')) :
  v.solidV = true ∧ (st.take mem x).holds fun (s, st') => v.sv μ st'.ver (lnT F Γ') s ∧ Sim μ F Γ' st' := by
 unfold takeT at hx
 rw [R.ok_bind] at hx
 obtain ⟨v0, h1, hx⟩ := hx
 have hu := use_sim h (b := true) (fun _ => rfl) h1
 cases v0 with
 | one c =>
  dsimp only at hx
  rw [R.ok_bind] at hx
  obtain ⟨⟨d, Γ2⟩, h2, hx⟩ := hx
  have := R.ok_pure.1 hx
  cases this
  have hs := takeC_solid h2
  refine ⟨hs, ?_⟩
  simp only [St.take, M.holds_bind]
  refine M.holds_mono hu ?_
  rintro _ ⟨a, rfl, ha⟩
  simp only [SV.cells, St.takeCells, M.holds_bind]
  have h0 : Sim μ F Γ (st.bumps []) := h
  refine M.holds_mono (takeC_sim h0 ha h2) ?_
  rintro ⟨b, st1, rs1⟩ ⟨k1, k2, k3⟩
  refine M.holds_pure' (M.holds_pure' (M.holds_pure' ?_))
  simp only [List.append_nil, SV.with, List.headD]
  exact ⟨⟨b, rfl, solid_av' hs k1⟩, k2⟩
 | agg l =>
  dsimp only at hx
  rw [R.ok_bind] at hx
  obtain ⟨⟨d, Γ2⟩, h2, hx⟩ := hx
  have := R.ok_pure.1 hx
  cases this
  have hs := takeCs_solid h2
  refine ⟨hs, ?_⟩
  simp only [St.take, M.holds_bind]
  refine M.holds_mono hu ?_
  rintro _ ⟨a, rfl, ha⟩
  have h0 : Sim μ F Γ (st.bumps []) := h
  refine M.holds_mono (takeCs_sim h0 ha h2) ?_
  rintro ⟨b, st1, rs1⟩ ⟨k1, k2, k3, k4⟩
  refine M.holds_pure' ?_
  exact ⟨⟨b, rfl, solid_avs hs k1⟩, k2⟩
 | clo f l =>
  dsimp only at hx
  cases hs : l.all TC.solidT with
  | false => rw [hs] at hx; exact (R.ok_fail.1 hx).elim
  | true =>
   rw [hs] at hx
   have := R.ok_pure.1 hx
   cases this
   refine ⟨hs, ?_⟩
   simp only [St.take, M.holds_bind]
   refine M.holds_mono hu ?_
   rintro _ ⟨k, rfl, ha⟩
   simp only [SV.cells, St.takeCells, St.takeCell, M.holds_bind]
   refine M.holds_pure' (M.holds_pure' (M.holds_pure' (M.holds_pure' ?_)))
   exact ⟨⟨k, rfl, ha⟩, h⟩
end
end Go.VS
namespace Go.VS
mutual
theorem Co.trans : ∀ {a b : AV}, Co a b → ∀ {c : AV}, Co b c → Co a c
 | _, _, .refl _, _, h => h
 | _, _, .nil τ k, _, h => by
  cases h with
  | refl => exact .nil τ k
  | sl _ τ' _ _ ys _ hl => cases hl; exact .nil τ' k
 | _, _, .sl τ τ' k xs ys ht hl, _, h => by
  cases h with
  | refl => exact .sl τ τ' k xs ys ht hl
  | sl _ τ2 _ _ zs ht2 hl2 =>
   refine .sl τ τ2 k xs zs ?_ (CoLL.trans hl hl2)
   rcases ht with rfl | ⟨rfl, rfl⟩
   ·exact ht2
   ·rcases ht2 with h | ⟨h, _⟩
    ·exact .inr ⟨rfl, h.symm⟩
    ·cases h
theorem CoL.trans : ∀ {a b : List AV}, CoL a b → ∀ {c : List AV}, CoL b c → CoL a c
 | _, _, .nil, _, h => h
 | _, _, .cons _ _ _ _ h t, _, h2 => by
  cases h2 with
  | cons _ c _ n h' t' => exact .cons _ _ _ _ (Co.trans h h') (CoL.trans t t')
theorem CoLL.trans : ∀ {a b : List (List AV)}, CoLL a b → ∀ {c : List (List AV)}, CoLL b c → CoLL a c
 | _, _, .nil, _, h => h
 | _, _, .cons _ _ _ _ h t, _, h2 => by
  cases h2 with
  | cons _ c _ n h' t' => exact .cons _ _ _ _ (CoL.trans h h') (CoLL.trans t t')
end
theorem CoL.set {l m : List AV} (h : CoL l m) (j : Nat) {a b : AV} (hab : Co a b) : CoL (l.set j a) (m.set j b) := by
 induction l generalizing m j with
 | nil => cases h; exact .nil
 | cons c l ih =>
  cases h with
  | cons _ d _ m h t =>
   cases j with
   | zero => exact .cons _ _ _ _ hab t
   | succ j => exact .cons _ _ _ _ h (ih t j)
theorem CoLL.set {l m : List (List AV)} (h : CoLL l m) (j : Nat) {a b : List AV} (hab : CoL a b) : CoLL (l.set j a) (m.set j b) := by
 induction l generalizing m j with
 | nil => cases h; exact .nil
 | cons c l ih =>
  cases h with
  | cons _ d _ m h t =>
   cases j with
   | zero => exact .cons _ _ _ _ hab t
   | succ j => exact .cons _ _ _ _ h (ih t j)
theorem CoLL.append : ∀ {l m : List (List AV)}, CoLL l m → ∀ {l' m' : List (List AV)}, CoLL l' m' → CoLL (l ++ l') (m ++ m')
 | _, _, .nil, _, _, h => h
 | _, _, .cons a b l m h t, _, _, k => .cons a b _ _ h (t.append k)
def castL (e e' : BT) (l : List e'.D) : Option (List e.D) := if h : e' = e then some (h ▸ l) else none
def zeroT (e : BT) (tt : TT) (zero : List Value) : Option e.D := e.imAll tt (zero.map constC)
def TT.noOwn : TT → Bool
 | .leaf => true
 | .node .own _ => false
 | .node _ _ => true
 | .pair a b => a.noOwn && b.noOwn
def takePs (F : TS) (e : BT) (tt : TT) : TS → List e.D → List (Nat × Opd) → R (List e.D × TS)
 | Γ, l, [] => pure (l, Γ)
 | Γ, l, (i, x) :: r => do
  let (v, Γ1) ← takeT F Γ true x
  match v with
  | .clo _ _ => R.fail
  | v => do
   let y ← R.ofOpt (e.imAll tt v.cells)
   takePs F e tt Γ1 (l.set i y) r
def srcR (Γ : TS) (e : BT) (tt : TT) (k : Nat) : Option (Nat × Nat) → TC → R (List e.D × TS)
 | none, .sl .own tt2 e2 l2 => if tt2.co tt ∧ tt2.noOwn ∧ k = e.size then (do
   let l' ← R.ofOpt (castL e e2 l2)
   pure (l', Γ))
  else R.fail
 | some (lo, n), .sl .own tt2 e2 l2 => if tt2.co tt ∧ tt2.noOwn ∧ k = e.size then (do
   let l' ← R.ofOpt (castL e e2 l2)
   R.need (lo + n ≤ l'.length)
   pure ((l'.drop lo).take n, Γ))
  else R.fail
 | _, _ => R.fail
def srcC (F Γ : TS) (e : BT) (tt : TT) (m : Nat) : TC → R (List e.D × TS)
 | .sl .own tt' e' l => if tt'.co tt then (do
   let l' ← R.ofOpt (castL e e' l)
   let Γ' ← setS F Γ m .gone
   pure (l', Γ'))
  else R.fail
 | .sl _ tt' e' l => if tt'.co tt then (do
   let l' ← R.ofOpt (castL e e' l)
   pure (l', Γ))
  else R.fail
 | .nil => pure ([], Γ)
 | .ref p _ e' w => do
  let d ← atR F Γ p
  srcR Γ e tt e'.size w d
 | _ => R.fail
def srcT (F Γ : TS) (e : BT) (tt : TT) : Opd → R (List e.D × TS)
 | .c (.slice none 0 0) => pure ([], Γ)
 | .t m => match TS.slot F Γ m with
  | some (.val [] (.one c)) => srcC F Γ e tt m c
  | _ => R.fail
 | _ => R.fail
def baseC (e : BT) (tt : TT) : TSV → R (List e.D)
 | .one (.sl .own tt' e' l) => if tt'.co tt then R.ofOpt (castL e e' l) else R.fail
 | .one .nil => pure []
 | _ => R.fail
def ownish : TC → Bool
 | .sl .own _ _ _ => true
 | .dead => true
 | _ => false
def boxHit (bump : Bool) (b c n : Nat) (p : Place) : Bool := match p.root with
 | .obj b' c' => bump || (Nat.beq b' b && (Nat.ble c c' && Nat.blt c' (c + n)))
 | .slot .. => false
def updI (i : Nat) (d : TC) : Nat → List TC → Option (List TC)
 | _, [] => some []
 | j, c :: l => match c, d, updI i d (j + 1) l with
  | .int k a, .int k' b, some m => if k = k' then some (.int k (if i = j then b else a) :: m) else none
  | .str a, .str b, some m => some (.str (if i = j then b else a) :: m)
  | _, _, _ => none
def putIn : TC → List Stp → TC → R TC
 | _, [], b => pure b
 | .sl .own tt e l, s :: r, b => if s.k = e.size then (match (e.ex tt (l.getD s.i e.dflt))[s.c]? with
   | some c => (do
    let c' ← putIn c r b
    let x ← R.ofOpt (e.imAll tt ((e.ex tt (l.getD s.i e.dflt)).set s.c c'))
    pure (.sl .own tt e (l.set s.i x)))
   | none => R.fail)
  else R.fail
 | _, _, _ => R.fail
def rootHit (bump : Bool) (r : Root) (p : Place) : Bool := onRoot r p && (bump || deep p)
def storeAdr (F Γ : TS) (n : Nat) (cells : List TC) (p : Place) (k i c : Nat) : TC → R TS
 | .sl .own tt e l => if e.size = k ∧ c + n ≤ k then (do
   R.need (i < l.length)
   let x ← R.ofOpt (e.imAll tt (setT (e.ex tt (l.getD i e.dflt)) c cells))
   let c0 ← R.ofOpt (rootT F Γ p.root)
   let c1 ← putIn c0 p.path (.sl .own tt e (l.set i x))
   let bump := (((e.ex tt (l.getD i e.dflt)).drop c).take n).any ownish
   R.ofOpt (putRoot F Γ (rootHit bump p.root) (fun p' => onRoot p.root p' && bump) p.root c1))
  else R.fail
 | _ => R.fail
def storeC (F Γ : TS) (n : Nat) (cells : List TC) : TC → R TS
 | .box b c => match TS.box F Γ b with
  | some l => if c + n ≤ l.length ∧ cells.length = n then
    R.ofOpt (TS.upd F Γ (boxHit (((l.drop c).take n).any ownish) b c n) (boxHit (((l.drop c).take n).any ownish) b c n) noBox []
     [(b, setT (l.map (TC.sift (boxHit (((l.drop c).take n).any ownish) b c n) (boxHit (((l.drop c).take n).any ownish) b c n) noBox)) c cells)])
   else R.fail
  | none => R.fail
 | .boxd b c m i => match TS.box F Γ b, cells with
  | some l, [d] => match updI i d 0 ((l.drop c).take m) with
   | some l2 => if c + m ≤ l.length ∧ n = 1 then (do
     R.need (i < m)
     R.ofOpt (TS.upd F Γ (boxHit false b c m) (boxHit false b c m) noBox [] [(b, setT (l.map (TC.sift (boxHit false b c m) (boxHit false b c m) noBox)) c l2)]))
    else R.fail
   | none => R.fail
  | _, _ => R.fail
 | .adr p _ e i c => if cells.length = n then (do
   let d ← atR F Γ p
   storeAdr F Γ n cells p e.size i c d)
  else R.fail
 | _ => R.fail
def newBox (d B : Nat) (p : Place) : Bool := onSlot d p || onBox B p
def allocB (F Γ : TS) (d B : Nat) (cells : List TC) : R TS :=
 bif cells.all TC.solidT && !(cells.any (TC.hit (newBox d B) (newBox d B) (Nat.beq B))) then R.ofOpt (TS.upd F Γ (newBox d B) (newBox d B) (Nat.beq B) [(d, .val [] (.one (.box B 0)))] [(B, cells)])
 else R.fail
def allocT (F Γ : TS) (d : Nat) (cells : List TC) : R TS := allocB F Γ d (d + rbase) cells
def TC.husk : TC → TC
 | .sl .own _ _ _ => .dead
 | c => c
def TSV.husk : TSV → TSV
 | .one c => .one c.husk
 | .agg l => .agg (l.map TC.husk)
 | v => v
def TC.known : TC → Bool
 | .dead => false
 | .ref .. => false
 | .adr .. => false
 | _ => true
def TSV.known : TSV → Bool
 | .one c => c.known
 | .agg l => l.all TC.known
 | .clo _ l => l.all TC.known
def takeA (F Γ : TS) (x : Opd) : R (TSV × TS) := do
 let v ← useT F Γ [] x
 match v with
 | .one (.adr p tt e i c) => pure (.one (.adr p tt e i c), Γ)
 | _ => takeT F Γ false x
def effWT (F Γ : TS) (dst : Option Nat) (ty : Option (BT × TT)) : AOp → R TS
 | .asg x => match dst with
  | some d => do
   let (v, Γ1) ← takeA F Γ x
   setS F Γ1 d (.val [] v)
  | none => R.fail
 | .alloc zero => match dst with
  | some d => allocT F Γ d (zero.map constC)
  | none => R.fail
 | .box x => match dst with
  | some d => do
   let (v, Γ1) ← takeT F Γ true x
   match v with
   | .clo _ _ => R.fail
   | v => allocT F Γ1 d v.cells
  | none => R.fail
 | .buildSl k zero len parts => match dst, ty with
  | some d, some (e, tt) => if e.size = k then (do
    let z ← R.ofOpt (zeroT e tt zero)
    let (l, Γ1) ← takePs F e tt Γ (List.replicate len z) parts
    setS F Γ1 d (.val [] (.one (.sl .own tt e l))))
   else R.fail
  | _, _ => R.fail
 | .mkSl k bytes zero l c => match dst, ty with
  | some d, some (e, tt) => if e.size = k ∧ 0 < bytes then (do
    let l ← useI F Γ [] l
    let c ← useI F Γ [] c
    let z ← R.ofOpt (zeroT e tt zero)
    R.need (0 ≤ l ∧ l ≤ c ∧ bytes * c ≤ 281474976710656)
    setS F Γ d (.val [] (.one (.sl .own tt e (List.replicate l.toNat z)))))
   else R.fail
  | _, _ => R.fail
 | .store n a x => do
  let (v, Γ1) ← takeT F Γ true x
  match v with
  | .clo _ _ => R.fail
  | v => do
   let c ← useO F Γ1 [] a
   storeC F Γ1 n v.cells c
 | .app k bytes s x => match dst, ty with
  | some d, some (e, tt) => if e.size = k ∧ 0 < bytes then (do
    let (ys, Γ1) ← srcT F Γ e tt x
    let (v, Γ2) ← takeT F Γ1 false s
    let xs ← baseC e tt v
    R.need ((xs.length + ys.length) * bytes ≤ 140737488355328)
    setS F Γ2 d (.val [] (.one (.sl .own tt e (xs ++ ys)))))
   else R.fail
  | _, _ => R.fail
 | .ext x i => match x, dst with
  | .t n, some d => match TS.slot F Γ n with
   | some (.tup l) => match l[i]? with
    | some v => if v.known then (do
      let Γ1 ← setS F Γ n (.tup (l.set i v.husk))
      setS F Γ1 d (.val [] v))
     else R.fail
    | none => R.fail
   | _ => R.fail
  | _, _ => R.fail
 | _ => R.fail
end Go.VS
namespace Go.VS
def MuLe (n : Nat) (μ μ' : Nat → Nat) : Prop := (∀ b, b < rbase → μ' b = μ b) ∧ ∀ b, μ' b = μ b ∨ n ≤ μ' b
theorem MuLe.refl (n : Nat) (μ : Nat → Nat) : MuLe n μ μ := ⟨fun _ _ => rfl, fun _ => .inl rfl⟩
theorem MuLe.trans {n n' : Nat} {μ μ' μ'' : Nat → Nat} (h : MuLe n μ μ') (k : MuLe n' μ' μ'') (hn : n ≤ n') : MuLe n μ μ'' := by
 refine ⟨fun b hb => by rw [k.1 b hb, h.1 b hb], fun b => ?_⟩
 rcases k.2 b with e | e
 ·rw [e]; exact h.2 b
 ·exact .inr (Nat.le_trans hn e)
def WOk (μ : Nat → Nat) (n : Nat) (F Γ : TS) (st : St) : Prop := ∃ μ' st', CoSt st st' ∧ Sim μ' F Γ st' ∧ MuLe n μ μ'
theorem CoSt.refl (st : St) : CoSt st st := ⟨fun _ => .refl _, fun o => by cases h : st.hp.get o with | none => exact .inl ⟨rfl, rfl⟩ | some l => exact .inr ⟨l, l, rfl, rfl, CoL.refl l⟩, rfl, rfl, rfl⟩
theorem CoSt.set {st : St} {t : Nat} {y y' : TV} (h : CoT y y') : CoSt (st.set t y) (st.set t y') := by
 refine ⟨fun t' => ?_, (CoSt.refl st).hp, rfl, rfl, rfl⟩
 simp only [St.set, upd]
 split
 ·exact h
 ·exact .refl _
theorem castL_spec {e e' : BT} {l : List e'.D} {m : List e.D} (h : castL e e' l = some m) : ∃ he : e' = e, m = he ▸ l := by
 unfold castL at h
 split at h
 ·rename_i he; exact ⟨he, (Option.some.inj h).symm⟩
 ·cases h
section
variable {μ : Nat → Nat} {ver : Root → Nat} {ln : Place → Option Nat} {F Γ Γ' : TS} {st : St}
theorem cells_sv {v : TSV} (hv : ∀ f l, v ≠ .clo f l) {s : SV} (h : v.sv μ ver ln s) : avs μ ver ln v.cells s.cells := by
 cases v with
 | one c => obtain ⟨a, rfl, ha⟩ := h; exact ⟨ha, trivial⟩
 | agg l => obtain ⟨k, rfl, ha⟩ := h; exact ha
 | clo f l => exact (hv f l rfl).elim
theorem zero_co {e : BT} {tt : TT} {zero : List Value} {z : e.D} (h : zeroT e tt zero = some z) : CoL (zero.map .lit) (e.enc tt z) := by
 have hz : ∀ zs : List Value, avs (fun n => n) (fun _ => 0) (fun _ => none) (zs.map constC) (zs.map .lit) := by
  intro zs
  induction zs with
  | nil => exact trivial
  | cons z zs ih => exact ⟨constC_av z, ih⟩
 exact imAll_ok h (hz zero)
theorem repl_co {α : Type} (f : α → List AV) {x : List AV} {z : α} (h : CoL x (f z)) : ∀ n, CoLL (List.replicate n x) ((List.replicate n z).map f)
 | 0 => .nil
 | n + 1 => .cons _ _ _ _ h (repl_co f h n)
theorem map_set' {α β : Type} (f : α → β) (l : List α) (i : Nat) (y : α) : (l.set i y).map f = (l.map f).set i (f y) := List.map_set
theorem takePs_sim {e : BT} {tt : TT} : ∀ {parts : List (Nat × Opd)} {l l' : List e.D} {xs : List (List AV)} {st : St} {Γ Γ' : TS}, Sim μ F Γ st → CoLL xs (l.map (e.enc tt)) → (takePs F e tt Γ l parts).ok (l', Γ') →
  (takeParts st e.size xs parts).holds fun (xs', st') => CoLL xs' (l'.map (e.enc tt)) ∧ Sim μ F Γ' st'
 | [], l, l', xs, st, Γ, Γ', h, hc, hx => by
  have := R.ok_pure.1 hx
  cases this
  exact M.holds_pure' ⟨hc, h⟩
 | (i, x) :: r, l, l', xs, st, Γ, Γ', h, hc, hx => by
  simp only [takePs] at hx
  rw [R.ok_bind] at hx
  obtain ⟨⟨v, Γ1⟩, h1, hx⟩ := hx
  obtain ⟨hs, h2⟩ := take_sim h h1
  have hv : ∀ f l, v ≠ .clo f l := by rintro f l rfl; exact R.ok_fail.1 hx
  have hx : (do
   let y ← R.ofOpt (e.imAll tt v.cells)
   takePs F e tt Γ1 (l.set i y) r : R (List e.D × TS)).ok (l', Γ') := by cases v <;> first | exact hx | exact (hv _ _ rfl).elim
  rw [R.ok_bind] at hx
  obtain ⟨y, h3, hx⟩ := hx
  have h3 := R.ok_ofOpt.1 h3
  simp only [takeParts, M.holds_bind]
  refine M.holds_mono h2 ?_
  rintro ⟨s, st1⟩ ⟨k1, k2⟩
  have k3 := imAll_ok h3 (cells_sv hv k1)
  have hlen : s.cells.length = e.size := by rw [k3.length, enc_length]
  rw [if_pos hlen]
  refine takePs_sim k2 ?_ hx
  rw [map_set']
  exact hc.set i k3
theorem enc_noOwn : ∀ (t : BT) (tt : TT) (_ : tt.noOwn = true) (x : t.D), (t.enc tt x).any AV.isOwn = false
 | .int _, _, _, _ => rfl
 | .bool, _, _, _ => rfl
 | .str, _, _, _ => rfl
 | .unit, _, _, _ => rfl
 | .sl e, tt, h, l => by
  cases tt with
  | leaf => rfl
  | node τ a => cases τ <;> first | rfl | cases h
  | pair a b => rfl
 | .pair a b, tt, h, x => by
  have h1 : tt.fst.noOwn = true ∧ tt.snd.noOwn = true := by
   cases tt with
   | leaf => exact ⟨rfl, rfl⟩
   | node τ a => exact ⟨rfl, rfl⟩
   | pair a b => simpa [TT.noOwn, TT.fst, TT.snd] using h
  simp only [BT.enc, List.any_append, enc_noOwn a _ h1.1, enc_noOwn b _ h1.2, Bool.or_self]
theorem map_co {e : BT} {tt tt' : TT} (h : tt.co tt' = true) (l : List e.D) : CoLL (l.map (e.enc tt)) (l.map (e.enc tt')) := CoLL.map (fun x => enc_co e h x) l
theorem window_all {α β : Type} (f : α → β) (l : List α) : window 0 l.length (l.map f) = l.map f := by simp [window]
theorem window_part {α β : Type} (f : α → β) (l : List α) (lo n : Nat) : window lo n (l.map f) = ((l.drop lo).take n).map f := by
 unfold window
 split
 ·rename_i he
  obtain ⟨rfl, he⟩ := he
  simp only [List.length_map] at he
  subst he
  simp
 ·simp
theorem source_sim {e : BT} {tt : TT} (h : Sim μ F Γ st) {x : Opd} {l : List e.D} (hx : (srcT F Γ e tt x).ok (l, Γ')) :
  (st.source e.size x).holds fun (ys, st') => CoLL ys (l.map (e.enc tt)) ∧ Sim μ F Γ' st' := by
 unfold srcT at hx
 split at hx
 ·have := R.ok_pure.1 hx
  cases this
  exact M.holds_pure' ⟨.nil, h⟩
 ·rename_i m
  split at hx
  case h_2 => exact (R.ok_fail.1 hx).elim
  rename_i c hs
  obtain ⟨s, heq, a, rfl, ha⟩ := h.sl m _ hs
  simp only [gv] at heq
  cases c with
  | sl τ tt' e' l0 =>
   have ha : a = _ := ha
   subst ha
   have shared : ∀ σ : Tag, σ ≠ .own → τ = σ → (if tt'.co tt then (do
     let l' ← R.ofOpt (castL e e' l0)
     pure (l', Γ)) else R.fail : R (List e.D × TS)).ok (l, Γ') → (st.source e.size (.t m)).holds fun (ys, st') => CoLL ys (l.map (e.enc tt)) ∧ Sim μ F Γ' st' := by
    rintro σ hσ rfl hx
    split at hx
    case isFalse => exact (R.ok_fail.1 hx).elim
    rename_i hco
    rw [R.ok_bind] at hx
    obtain ⟨l2, h1, hx⟩ := hx
    have := R.ok_pure.1 hx
    cases this
    obtain ⟨rfl, rfl⟩ := castL_spec (R.ok_ofOpt.1 h1)
    simp only [St.source, heq]
    cases τ with
    | own => exact (hσ rfl).elim
    | _ =>
     simp only [M.holds_bind, M.holds_need]
     exact ⟨trivial, trivial, M.holds_pure' ⟨map_co hco _, h⟩⟩
   cases τ with
   | own =>
    simp only [srcC] at hx
    split at hx
    case isFalse => exact (R.ok_fail.1 hx).elim
    rename_i hco
    rw [R.ok_bind] at hx
    obtain ⟨l2, h1, hx⟩ := hx
    rw [R.ok_bind] at hx
    obtain ⟨Γ2, h2, hx⟩ := hx
    have := R.ok_pure.1 hx
    cases this
    obtain ⟨rfl, rfl⟩ := castL_spec (R.ok_ofOpt.1 h1)
    simp only [St.source, heq, M.holds_bind, M.holds_need]
    exact ⟨trivial, trivial, M.holds_pure' ⟨map_co hco _, set_sim h h2 trivial⟩⟩
   | imm => exact shared .imm (by simp) rfl hx
   | brw => exact shared .brw (by simp) rfl hx
  | nil =>
   have ha : a = _ := ha
   subst ha
   have := R.ok_pure.1 hx
   cases this
   simp only [St.source, heq, M.holds_bind, M.holds_need]
   exact ⟨trivial, M.holds_pure' ⟨.nil, h⟩⟩
  | ref p tt0 e' w =>
   simp only [srcC] at hx
   rw [R.ok_bind] at hx
   obtain ⟨d, h1, hx⟩ := hx
   cases d with
   | sl τ tt2 e2 l2 =>
    cases τ with
    | own =>
     obtain ⟨q1, q2⟩ := own_sim h h1
     cases w with
     | none =>
      have ha : a = _ := ref_eq ha q2
      subst ha
      simp only [srcR] at hx
      split at hx
      case isFalse => exact (R.ok_fail.1 hx).elim
      rename_i hco
      rw [R.ok_bind] at hx
      obtain ⟨l3, h2, hx⟩ := hx
      have := R.ok_pure.1 hx
      cases this
      obtain ⟨rfl, rfl⟩ := castL_spec (R.ok_ofOpt.1 h2)
      simp only [St.source, heq, q1, M.holds_bind, M.holds_need, window_all]
      refine ⟨trivial, hco.2.2, trivial, trivial, by simp, ?_, M.holds_pure' ⟨map_co hco.1 _, h⟩⟩
      intro x hx
      obtain ⟨y, _, rfl⟩ := List.mem_map.1 hx
      exact enc_noOwn _ _ hco.2.1 y
     | some y =>
      obtain ⟨lo, n⟩ := y
      have ha : a = _ := ha
      subst ha
      simp only [srcR] at hx
      split at hx
      case isFalse => exact (R.ok_fail.1 hx).elim
      rename_i hco
      rw [R.ok_bind] at hx
      obtain ⟨l3, h2, hx⟩ := hx
      rw [R.ok_bind] at hx
      obtain ⟨_, h3, hx⟩ := hx
      have h3 := R.ok_need.1 h3
      have := R.ok_pure.1 hx
      cases this
      obtain ⟨rfl, rfl⟩ := castL_spec (R.ok_ofOpt.1 h2)
      simp only [St.source, heq, q1, M.holds_bind, M.holds_need, window_part]
      refine ⟨trivial, hco.2.2, trivial, trivial, by simpa using h3, ?_, M.holds_pure' ⟨map_co hco.1 _, h⟩⟩
      intro x hx
      obtain ⟨y, _, rfl⟩ := List.mem_map.1 hx
      exact enc_noOwn _ _ hco.2.1 y
    | _ => cases w with
     | none => exact (R.ok_fail.1 hx).elim
     | some y => exact (R.ok_fail.1 hx).elim
   | _ => cases w with
    | none => exact (R.ok_fail.1 hx).elim
    | some y => exact (R.ok_fail.1 hx).elim
  | _ => exact (R.ok_fail.1 hx).elim
 ·exact (R.ok_fail.1 hx).elim
theorem base_sim {e : BT} {tt : TT} (h : Sim μ F Γ st) {x : Opd} {v : TSV} (hx : (takeT F Γ false x).ok (v, Γ')) {l : List e.D} (hb : (baseC e tt v).ok l) :
  (st.base e.size x).holds fun (ys, st') => CoLL ys (l.map (e.enc tt)) ∧ Sim μ F Γ' st' := by
 obtain ⟨hs, h2⟩ := take_sim h hx
 simp only [St.base, M.holds_bind]
 refine M.holds_mono h2 ?_
 rintro ⟨s, st1⟩ ⟨k1, k2⟩
 unfold baseC at hb
 split at hb
 ·obtain ⟨a, rfl, ha⟩ := k1
  have ha : a = _ := ha
  subst ha
  split at hb
  case isFalse => exact (R.ok_fail.1 hb).elim
  rename_i hco
  obtain ⟨rfl, rfl⟩ := castL_spec (R.ok_ofOpt.1 hb)
  simp only [M.holds_bind, M.holds_need]
  exact ⟨trivial, M.holds_pure' ⟨map_co hco _, k2⟩⟩
 ·obtain ⟨a, rfl, ha⟩ := k1
  have ha : a = _ := ha
  subst ha
  have := R.ok_pure.1 hb
  cases this
  exact M.holds_pure' ⟨.nil, k2⟩
 ·exact (R.ok_fail.1 hb).elim
theorem alloc_sim (h : Sim μ F Γ st) {d B : Nat} {cells : List TC} {as : List AV} (hu : (allocB F Γ d B cells).ok Γ') (ha : avs μ st.ver (lnT F Γ) cells as) :
  ∃ μ', μ' = upd μ B st.hp.next ∧ Sim μ' F Γ' (St.set ⟨st.sl, st.hp.alloc as, st.vs, st.hv⟩ d (V (.ptr st.hp.next 0))) := by
 unfold allocB at hu
 cases hb : (cells.all TC.solidT && !(cells.any (TC.hit (newBox d B) (newBox d B) (Nat.beq B)))) with
 | false => rw [hb] at hu; exact (R.ok_fail.1 hu).elim
 | true =>
  rw [hb] at hu
  have hu := R.ok_ofOpt.1 hu
  simp only [Bool.and_eq_true, Bool.not_eq_true'] at hb
  refine ⟨upd μ B st.hp.next, rfl, ?_⟩
  generalize hst : St.set ⟨st.sl, st.hp.alloc as, st.vs, st.hv⟩ d (V (.ptr st.hp.next 0)) = st'
  have esl : st'.sl = upd st.sl d (V (.ptr st.hp.next 0)) := by rw [← hst]; rfl
  have ehp : st'.hp = st.hp.alloc as := by rw [← hst]; rfl
  have hmu : ∀ b, Nat.beq B b = false → upd μ B st.hp.next b = μ b := by
   intro b hb'
   have : b ≠ B := by rintro rfl; simp at hb'
   simp [upd, this]
  have hnb : ∀ p, newBox d B p = false → p.mu (upd μ B st.hp.next) = p.mu μ ∧ st'.ver (p.mu (upd μ B st.hp.next)).root = st.ver (p.mu μ).root := by
   intro p hp
   simp only [newBox, Bool.or_eq_false_iff] at hp
   have e : p.mu (upd μ B st.hp.next) = p.mu μ := by
    cases hr : p.root with
    | slot t j => simp [Place.mu, hr, Root.mu]
    | obj b c =>
     have : b ≠ B := by rintro rfl; rw [onBox_iff.2 ⟨c, hr⟩] at hp; cases hp.2
     simp [Place.mu, hr, Root.mu, upd, this]
   refine ⟨e, ?_⟩
   rw [e, ← hst]
   cases hr : p.root with
   | slot t j =>
    have hne : t ≠ d := by rintro rfl; rw [onSlot_iff.2 ⟨j, hr⟩] at hp; cases hp.1
    simp only [Place.mu, hr, Root.mu, St.ver, St.set]
    split
    ·simp [upd, hne]
    ·rfl
   | obj b c => simp only [Place.mu, hr, Root.mu, St.ver, St.set]
  have T : Tr (newBox d B) (newBox d B) (Nat.beq B) μ (upd μ B st.hp.next) st.ver st'.ver (lnT F Γ) (lnT F Γ') := by
   refine ⟨hmu, fun p hp => ⟨(hnb p hp).1, (hnb p hp).2, fun n hn => ?_⟩, fun p hp => hnb p hp⟩
   simp only [newBox, Bool.or_eq_false_iff] at hp
   refine upd_ln hu h.ss (fun t j hr => ?_) (fun b c hr => ?_) hn
   ·rw [look_one, if_neg]
    rintro rfl
    rw [onSlot_iff.2 ⟨j, hr⟩] at hp; cases hp.1
   ·rw [look_one, if_neg]
    rintro rfl
    rw [onBox_iff.2 ⟨c, hr⟩] at hp; cases hp.2
  refine h.upd hu T ?_ ?_ ?_ ?_ ?_ ?_ (by rw [ehp]; exact Nat.le_succ _)
  ·intro t ht
   rw [look_one] at ht
   split at ht
   ·cases ht
   ·rename_i hne; rw [esl]; simp [upd, Ne.symm hne]
  ·intro t x hx
   rw [look_one] at hx
   split at hx
   case isFalse => cases hx
   rename_i ht
   cases hx
   subst ht
   rw [esl]
   simp only [upd, if_true]
   exact ⟨.one (.ptr st.hp.next 0), rfl, _, rfl, by simp [TC.av, upd]⟩
  ·intro b l hb' hl
   rw [ehp]
   obtain ⟨k, q1, q2, q3, q4⟩ := h.bx b l hl
   have : μ b ≠ st.hp.next := by omega
   simp [Heap.alloc, upd, this]
  ·intro b l hb'
   rw [look_one] at hb'
   split at hb'
   case isFalse => cases hb'
   rename_i hbb
   cases hb'
   subst hbb
   refine ⟨as, by rw [ehp]; simp [Heap.alloc, upd], ?_, by rw [ehp]; simp [Heap.alloc, upd], hb.1⟩
   have := T.avs ha
   rwa [map_sift_id hb.2] at this
  ·intro b hb'
   have : B = b := Nat.eq_of_beq_eq_true hb'
   subst this
   simp [look_one]
  ·intro b b' l l' hb' hl' he
   rw [look_one] at hb'
   split at hb'
   case isFalse => cases hb'
   rename_i hbb
   subst hbb
   rw [upd_box hu b', look_one] at hl'
   by_cases e : B = b'
   ·exact e
   ·rw [if_neg e] at hl'
    simp only [Option.map_eq_some_iff] at hl'
    obtain ⟨l2, h2, _⟩ := hl'
    obtain ⟨k, q1, q2, q3, q4⟩ := h.bx b' l2 h2
    simp only [upd, if_true, if_neg (Ne.symm e)] at he
    omega
theorem allocT_sim (h : Sim μ F Γ st) {d : Nat} {cells : List TC} {as : List AV} (hu : (allocT F Γ d cells).ok Γ') (ha : avs μ st.ver (lnT F Γ) cells as) :
  WOk μ st.hp.next F Γ' (St.set ⟨st.sl, st.hp.alloc as, st.vs, st.hv⟩ d (V (.ptr st.hp.next 0))) := by
 obtain ⟨μ', rfl, k⟩ := alloc_sim h hu ha
 refine ⟨_, _, CoSt.refl _, k, fun b hb => ?_, fun b => ?_⟩
 ·have : b ≠ d + rbase := by omega
  simp [upd, this]
 ·simp only [upd]
  split
  ·exact .inr (Nat.le_refl _)
  ·exact .inl rfl
theorem ownish_not {c : TC} (h : ownish c = false) (hs : c.solidT = true) {a : AV} (ha : c.av μ ver ln a) : a.isOwn = false := by
 cases c with
 | sl τ tt e l =>
  have ha : a = _ := ha
  subst ha
  cases τ <;> first | rfl | cases h
 | dead => cases h
 | ref => cases hs
 | adr => cases hs
 | _ => (have ha : a = _ := ha); subst ha; rfl
theorem ownish_any : ∀ {l : List TC}, l.any ownish = false → l.all TC.solidT = true → ∀ {as : List AV}, avs μ ver ln l as → as.any AV.isOwn = false
 | [], _, _, [], _ => rfl
 | c :: l, h, hs, a :: as, ha => by
  simp only [List.any_cons, Bool.or_eq_false_iff] at h
  simp only [List.all_cons, Bool.and_eq_true] at hs
  simp only [List.any_cons, ownish_not h.1 hs.1 ha.1, ownish_any h.2 hs.2 ha.2, Bool.or_self]
 | [], _, _, _ :: _, h => h.elim
 | _ :: _, _, _, [], h => h.elim
theorem setT_other : ∀ (vs l : List TC) (c j : Nat), j < c ∨ c + vs.length ≤ j → (setT l c vs)[j]? = l[j]?
 | [], l, c, j, _ => rfl
 | v :: vs, l, c, j, h => by
  rw [setT, setT_other vs _ (c + 1) j (by simp at h; omega), List.getElem?_set_ne (by simp at h; omega)]
theorem setT_solid : ∀ (vs l : List TC) (c : Nat), l.all TC.solidT = true → vs.all TC.solidT = true → (setT l c vs).all TC.solidT = true
 | [], l, c, h, _ => h
 | v :: vs, l, c, h, hv => by
  simp only [List.all_cons, Bool.and_eq_true] at hv
  refine setT_solid vs _ (c + 1) ?_ hv.2
  rw [List.all_eq_true] at h ⊢
  intro x hx
  rcases List.mem_or_eq_of_mem_set hx with hx | rfl
  ·exact h x hx
  ·exact hv.1
theorem boxStore_sim (h : Sim μ F Γ st) {b c n : Nat} {l cells : List TC} {k : List AV} {bump : Bool} (hl : TS.box F Γ b = some l) (hn : cells.length = n) (hk : st.hp.get (μ b) = some k)
  (hu : TS.upd F Γ (boxHit bump b c n) (boxHit bump b c n) noBox [] [(b, setT (l.map (TC.sift (boxHit bump b c n) (boxHit bump b c n) noBox)) c cells)] = some Γ')
  (hs : cells.all TC.solidT = true) {k' : List AV} (hk' : ∀ (ver' : Root → Nat) (ln' : Place → Option Nat), avs μ ver' ln' (l.map (TC.sift (boxHit bump b c n) (boxHit bump b c n) noBox)) k → avs μ ver' ln' (setT (l.map (TC.sift (boxHit bump b c n) (boxHit bump b c n) noBox)) c cells) k')
  {st' : St} (esl : st'.sl = st.sl) (ehp : st'.hp = st.hp.set (μ b) k') (evs : st'.vs = st.vs) (ehv : bump = false → st'.hv = st.hv) : Sim μ F Γ' st' := by
 obtain ⟨k0, q1, q2, q3, q4⟩ := h.bx b l hl
 rw [hk] at q1
 cases q1
 have hver : ∀ p, boxHit bump b c n p = false → st'.ver (p.mu μ).root = st.ver (p.mu μ).root := by
  intro p hp
  cases hr : p.root with
  | slot t j => simp only [Place.mu, hr, Root.mu, St.ver, evs]
  | obj b' c' =>
   simp only [boxHit, hr, Bool.or_eq_false_iff] at hp
   simp only [Place.mu, hr, Root.mu, St.ver, ehv hp.1]
 have T : Tr (boxHit bump b c n) (boxHit bump b c n) noBox μ μ st.ver st'.ver (lnT F Γ) (lnT F Γ') := by
  refine ⟨fun _ _ => rfl, fun p hp => ⟨rfl, hver p hp, fun m hm => ?_⟩, fun p hp => ⟨rfl, hver p hp⟩⟩
  cases hr : p.root with
  | slot t j => exact upd_ln hu h.ss (fun _ _ _ => rfl) (fun _ _ e => by rw [hr] at e; cases e) hm
  | obj b' c' =>
   by_cases hb : b' = b
   ·subst hb
    simp only [boxHit, hr, Bool.or_eq_false_iff] at hp
    have hout : c' < c ∨ c + n ≤ c' := by
     have h1 := hp.2
     have e1 : Nat.beq b' b' = true := by simp
     rw [e1, Bool.true_and] at h1
     cases h2 : Nat.ble c c' with
     | false => left; exact Nat.lt_of_not_le (fun h => by rw [← Nat.ble_eq] at h; rw [h] at h2; cases h2)
     | true =>
      rw [h2, Bool.true_and] at h1
      right
      refine Nat.le_of_not_lt fun h3 => ?_
      have : Nat.blt c' (c + n) = true := by simp [Nat.blt]; omega
      rw [this] at h1; cases h1
    unfold lnT atT at hm ⊢
    rw [hr] at hm ⊢
    simp only [rootT, upd_box hu, look_one, if_true, hl, Option.bind_some] at hm ⊢
    rw [setT_other _ _ _ _ (by rw [hn]; exact hout), List.getElem?_map] at hm
    cases hc : l[c']? with
    | none => rw [hc] at hm; simp at hm
    | some d0 =>
     rw [hc] at hm
     simp only [Option.map_some, Option.bind_some] at hm ⊢
     exact d0.sift_len p.path m hm
   ·refine upd_ln hu h.ss (fun _ _ _ => rfl) (fun _ _ e => ?_) hm
    rw [hr] at e; cases e
    rw [look_one, if_neg (Ne.symm hb)]
 refine h.upd hu T (fun t _ => by rw [esl]) (fun _ _ h => nomatch h) ?_ ?_ (fun _ h => nomatch h) ?_ (by rw [ehp]; exact Nat.le_refl _)
 ·intro b' l' hb hl'
  rw [look_one] at hb
  split at hb
  ·cases hb
  ·rename_i hne
   rw [ehp]
   have : μ b' ≠ μ b := fun e => hne (h.inj b b' l l' hl hl' e.symm)
   simp [Heap.set, upd, this]
 ·intro b' l' hb
  rw [look_one] at hb
  split at hb
  case isFalse => cases hb
  rename_i hbb
  cases hb
  subst hbb
  refine ⟨k', by rw [ehp]; simp [Heap.set, upd], hk' _ _ (T.avs q2), by rw [ehp]; exact q3, ?_⟩
  refine setT_solid _ _ _ ?_ hs
  rw [List.all_map, List.all_eq_true]
  intro x hx
  exact TC.solid_sift (List.all_eq_true.1 q4 x hx)
 ·intro b1 b' l1 l' hb hb' he
  rw [look_one] at hb
  split at hb
  case isFalse => cases hb
  rename_i hbb
  subst hbb
  rw [upd_box hu b', look_one] at hb'
  by_cases e : b = b'
  ·exact e
  ·rw [if_neg e] at hb'
   simp only [Option.map_eq_some_iff] at hb'
   obtain ⟨l2, h2, _⟩ := hb'
   exact h.inj _ _ _ _ hl h2 he
theorem updI_av {i : Nat} {d : TC} {b : AV} (hd : d.av μ ver ln b) : ∀ {l l2 : List TC} {k : List AV} (j : Nat), updI i d j l = some l2 → avs μ ver ln l k → avs μ ver ln l2 (if j ≤ i then k.set (i - j) b else k) ∧ l2.all TC.solidT = true ∧ l2.length = l.length
 | [], l2, [], j, h, _ => by
  simp only [updI, Option.some.injEq] at h
  subst h
  refine ⟨?_, rfl, rfl⟩
  split <;> simp [avs]
 | c :: l, l2, a :: k, j, h, ha => by
  simp only [updI] at h
  have step : ∀ (c' : TC) (m : List TC), updI i d (j + 1) l = some m → l2 = c' :: m → c'.solidT = true → (c'.av μ ver ln (if i = j then b else a)) → avs μ ver ln l2 (if j ≤ i then (a :: k).set (i - j) b else a :: k) ∧ l2.all TC.solidT = true ∧ l2.length = (c :: l).length := by
   rintro c' m hm rfl hs hc'
   obtain ⟨h1, h2, h3⟩ := updI_av hd (j + 1) hm ha.2
   refine ⟨?_, by simp [hs, h2], by simp [h3]⟩
   by_cases hij : i = j
   ·subst hij
    rw [if_pos rfl] at hc'
    rw [if_neg (by omega)] at h1
    simpa [avs] using ⟨hc', h1⟩
   ·rw [if_neg hij] at hc'
    by_cases hle : j ≤ i
    ·rw [if_pos hle]
     rw [if_pos (by omega)] at h1
     have : i - j = (i - (j + 1)) + 1 := by omega
     rw [this]
     exact ⟨hc', h1⟩
    ·rw [if_neg hle]
     rw [if_neg (by omega)] at h1
     exact ⟨hc', h1⟩
  split at h
  ·rename_i k0 x k1 y m hm
   split at h
   case isFalse => cases h
   rename_i hk
   cases h
   subst hk
   refine step _ m hm rfl rfl ?_
   have h1 : a = _ := ha.1
   have h2 : b = _ := hd
   subst h1 h2
   split <;> exact rfl
  ·rename_i x y m hm
   cases h
   refine step _ m hm rfl rfl ?_
   have h1 : a = _ := ha.1
   have h2 : b = _ := hd
   subst h1 h2
   split <;> exact rfl
  ·cases h
 | [], _, _ :: _, _, _, h => h.elim
 | _ :: _, _, [], _, _, h => h.elim
theorem setCells_eq : ∀ (vs l : List AV) (c : Nat), c + vs.length ≤ l.length → setCells l c vs = l.take c ++ (vs ++ l.drop (c + vs.length))
 | [], l, c, h => by simp [setCells]
 | v :: vs, l, c, h => by
  simp only [List.length_cons] at h
  rw [setCells, setCells_eq vs _ (c + 1) (by simp; omega)]
  have hlt : c < l.length := by omega
  rw [List.set_eq_take_append_cons_drop, if_pos hlt]
  have e1 : (l.take c ++ v :: l.drop (c + 1)).take (c + 1) = l.take c ++ [v] := by
   have hl : (l.take c).length = c := by simp; omega
   rw [List.take_append, List.take_of_length_le (by omega), hl]
   simp
  have e2 : (l.take c ++ v :: l.drop (c + 1)).drop (c + 1 + vs.length) = l.drop (c + (vs.length + 1)) := by
   rw [List.drop_append]
   simp only [List.length_take, Nat.min_eq_left (Nat.le_of_lt hlt)]
   rw [List.drop_eq_nil_of_le (by simp; omega)]
   have : c + 1 + vs.length - c = vs.length + 1 := by omega
   rw [this, List.drop_succ_cons, List.drop_drop, List.nil_append]
   congr 1; omega
  rw [e1, e2]
  simp
theorem set_in {l : List AV} {c m i : Nat} {a : AV} (hi : i < m) (hc : c + m ≤ l.length) : l.set (c + i) a = setCells l c (((l.drop c).take m).set i a) := by
 have hlen : (((l.drop c).take m).set i a).length = m := by simp; omega
 rw [setCells_eq _ _ _ (by rw [hlen]; exact hc), hlen]
 apply List.ext_getElem?
 intro j
 rw [List.getElem?_set]
 by_cases hj : j < c
 ·rw [if_neg (by omega), List.getElem?_append_left (by simp; omega), List.getElem?_take_of_lt hj]
 ·rw [List.getElem?_append_right (by simp; omega)]
  simp only [List.length_take, Nat.min_eq_left (show c ≤ l.length by omega)]
  by_cases hj2 : j < c + m
  ·rw [List.getElem?_append_left (by rw [hlen]; omega), List.getElem?_set]
   by_cases he : c + i = j
   ·subst he
    rw [if_pos rfl, if_pos (by omega), if_pos (by omega), if_pos (by simp; omega)]
   ·rw [if_neg he, if_neg (by omega), List.getElem?_take_of_lt (by omega), List.getElem?_drop]
    congr 1; omega
  ·rw [if_neg (by omega), List.getElem?_append_right (by rw [hlen]; omega), hlen, List.getElem?_drop]
   congr 1; omega
end
def M.all {α : Type} (x : M α) (K : α → Prop) : Prop := match x with
 | none => True
 | some (_, a) => K a
theorem M.all_bind {α β : Type} {x : M α} {f : α → M β} {K : β → Prop} (h : x.all fun a => (f a).all K) : (x >>= f).all K := by
 show (M.bind x f).all K
 match x, h with
 | none, _ => trivial
 | some (p, a), h =>
  show (M.bind (some (p, a)) f).all K
  unfold M.bind
  have h : (f a).all K := h
  dsimp only
  cases hf : f a with
  | none => trivial
  | some y => obtain ⟨q, b⟩ := y; rw [hf] at h; exact h
theorem M.all_pure {α : Type} {a : α} {K : α → Prop} (h : K a) : (Pure.pure a : M α).all K := h
theorem M.all_need {p : Prop} {K : Unit → Prop} (h : K ()) : (M.need p).all K := h
theorem M.all_fail {α : Type} {K : α → Prop} : (M.fail : M α).all K := trivial
theorem M.all_true {α : Type} (x : M α) {K : α → Prop} (h : ∀ a, K a) : x.all K := by
 match x with
 | none => trivial
 | some (_, a) => exact h a
theorem M.all_mono {α : Type} {x : M α} {K K' : α → Prop} (h : x.all K) (hk : ∀ a, K a → K' a) : x.all K' := by
 match x, h with
 | none, _ => trivial
 | some (_, a), h => exact hk a h
theorem M.holds_and {α : Type} {x : M α} {K K' : α → Prop} (h : x.holds K) (h' : x.all K') : x.holds fun a => K a ∧ K' a := by
 match x, h, h' with
 | some (_, a), h, h' => exact ⟨h.1, h.2, h'⟩
theorem bump_next (st : St) (r : Root) : (st.bump r).hp.next = st.hp.next := by cases r <;> rfl
theorem bumps_next : ∀ (rs : List Root) (st : St), (st.bumps rs).hp.next = st.hp.next
 | [], _ => rfl
 | r :: rs, st => by rw [St.bumps, bumps_next rs, bump_next]
theorem setRoot_next (st : St) (r : Root) (b : AV) : (st.setRoot r b).hp.next = st.hp.next := by
 cases r with
 | slot t j => rfl
 | obj o c => simp only [St.setRoot]; split <;> rfl
theorem putAt_next (st : St) (p : Place) (b : AV) : (st.putAt p b).hp.next = st.hp.next := by
 unfold St.putAt
 split
 ·exact setRoot_next _ _ _
 ·rfl
theorem takeCell_next (v0 : Root → Nat) (mem : Bool) (st : St) (a : AV) : (st.takeCell v0 mem a).all fun p => p.2.1.hp.next = st.hp.next := by
 unfold St.takeCell
 split
 ·split
  ·exact M.all_bind (M.all_need (M.all_bind (M.all_need (M.all_bind (M.all_need (M.all_pure (putAt_next _ _ _)))))))
  ·exact M.all_fail
 ·cases mem <;> first | exact M.all_fail | exact M.all_pure rfl
 ·cases mem <;> first | exact M.all_fail | exact M.all_pure rfl
 ·exact M.all_fail
 ·exact M.all_fail
 ·exact M.all_pure rfl
theorem takeCells_next (v0 : Root → Nat) (mem : Bool) : ∀ (l : List AV) (st : St), (st.takeCells v0 mem l).all fun p => p.2.1.hp.next = st.hp.next
 | [], st => M.all_pure rfl
 | a :: l, st => by
  refine M.all_bind (M.all_mono (takeCell_next v0 mem st a) ?_)
  rintro ⟨b, st1, rs⟩ h1
  refine M.all_bind (M.all_mono (takeCells_next v0 mem l st1) ?_)
  rintro ⟨m, st2, rs'⟩ h2
  exact M.all_pure (h2.trans h1)
theorem take_next (st : St) (mem : Bool) (x : Opd) : (st.take mem x).all fun p => p.2.hp.next = st.hp.next := by
 unfold St.take
 refine M.all_bind (M.all_true _ fun s => M.all_bind (M.all_mono (takeCells_next _ _ _ _) ?_))
 rintro ⟨l, st1, rs⟩ h1
 exact M.all_pure ((bumps_next _ _).trans h1)
end Go.VS
namespace Go.VS
section
variable {μ : Nat → Nat} {ver : Root → Nat} {ln : Place → Option Nat} {F Γ Γ' : TS} {st : St}
theorem modify_set {α : Type} {l : List α} {i : Nat} {x : α} (h : l[i]? = some x) (f : α → α) : l.modify i f = l.set i (f x) := by
 rw [modify_eq f l i x h, set_split l i x (f x) h]
theorem modify_out {α : Type} {l : List α} {i : Nat} (h : l.length ≤ i) (f : α → α) : l.modify i f = l := by
 apply List.ext_getElem?
 intro j
 rw [List.getElem?_modify]
 by_cases hj : i = j
 ·subst hj; simp [List.getElem?_eq_none h]
 ·simp [hj]
theorem putIn_co : ∀ {path : List Stp} {c b c1 : TC} {a b' u : AV}, (putIn c path b).ok c1 → c.av μ ver ln a → b.av μ ver ln b' → Co u b' → ∃ a1, c1.av μ ver ln a1 ∧ Co (a.put path u) a1
 | [], c, b, c1, a, b', u, hx, ha, hb, hc => by
  have hx : (Pure.pure b : R TC).ok c1 := by cases c <;> first | exact hx | (rename_i τ _ _ _; cases τ <;> exact hx)
  have := R.ok_pure.1 hx
  subst this
  exact ⟨b', hb, by cases a <;> exact hc⟩
 | s :: r, c, b, c1, a, b', u, hx, ha, hb, hc => by
  cases c with
  | sl τ tt e l =>
   cases τ with
   | own =>
    simp only [putIn] at hx
    split at hx
    case isFalse => exact (R.ok_fail.1 hx).elim
    rename_i hk
    split at hx
    case h_2 => exact (R.ok_fail.1 hx).elim
    rename_i c2 hc2
    rw [R.ok_bind] at hx
    obtain ⟨c', h1, hx⟩ := hx
    rw [R.ok_bind] at hx
    obtain ⟨x, h2, hx⟩ := hx
    have := R.ok_pure.1 hx
    subst this
    have h2 := R.ok_ofOpt.1 h2
    have ha : a = _ := ha
    subst ha
    refine ⟨_, rfl, ?_⟩
    simp only [AV.put, if_pos hk]
    refine .sl _ _ _ _ _ (.inl rfl) ?_
    by_cases hi : s.i < l.length
    ·have e1 : l.getD s.i e.dflt = l[s.i] := by simp [List.getD_eq_getElem?_getD, List.getElem?_eq_getElem hi]
     rw [e1] at hc2 h2
     obtain ⟨a2, ha2, hav2⟩ := avs_get (ex_av (μ := μ) (ver := ver) (ln := ln) e tt l[s.i]) hc2
     obtain ⟨a3, ha3, hco3⟩ := putIn_co h1 hav2 hb hc
     have e2 : (l.map (e.enc tt))[s.i]? = some (e.enc tt l[s.i]) := by simp [List.getElem?_eq_getElem hi]
     rw [modify_set e2, modify_set ha2, map_set']
     refine (CoLL.refl _).set s.i ?_
     exact ((CoL.refl _).set s.c hco3).trans (imAll_ok h2 (avs_set (ex_av e tt l[s.i]) s.c ha3))
    ·rw [modify_out (by simpa using hi), List.set_eq_of_length_le (by simpa using hi)]
     exact CoLL.refl _
   | _ => exact (R.ok_fail.1 hx).elim
  | _ => exact (R.ok_fail.1 hx).elim
theorem putIn_len : ∀ {path : List Stp} {c b c1 : TC}, (putIn c path b).ok c1 → path ≠ [] → c1.len? = c.len? ∧ c1.solidT = true
 | [], _, _, _, _, h => (h rfl).elim
 | s :: r, c, b, c1, hx, _ => by
  cases c with
  | sl τ tt e l =>
   cases τ with
   | own =>
    simp only [putIn] at hx
    split at hx
    case isFalse => exact (R.ok_fail.1 hx).elim
    split at hx
    case h_2 => exact (R.ok_fail.1 hx).elim
    rw [R.ok_bind] at hx
    obtain ⟨c', h1, hx⟩ := hx
    rw [R.ok_bind] at hx
    obtain ⟨x, h2, hx⟩ := hx
    have := R.ok_pure.1 hx
    subst this
    exact ⟨by simp [TC.len?], rfl⟩
   | _ => exact (R.ok_fail.1 hx).elim
  | _ => exact (R.ok_fail.1 hx).elim
theorem CoSt.setRoot (st : St) (r : Root) {b b' : AV} (h : Co b b') : CoSt (st.setRoot r b) (st.setRoot r b') := by
 cases r with
 | slot t j =>
  refine ⟨fun t' => ?_, (CoSt.refl st).hp, rfl, rfl, rfl⟩
  simp only [St.setRoot, upd]
  split
  ·cases st.sl t with
   | val g s =>
    refine .val g _ _ ?_
    cases s with
    | one a => cases j with
     | zero => exact .one _ _ h
     | succ j => exact .one _ _ (.refl _)
    | agg l => exact .agg _ _ ((CoL.refl l).set j h)
   | _ => exact .refl _
  ·exact .refl _
 | obj o c =>
  simp only [St.setRoot]
  cases hg : st.hp.get o with
  | none => exact CoSt.refl st
  | some l =>
   refine ⟨fun _ => .refl _, fun o' => ?_, rfl, rfl, rfl⟩
   simp only [Heap.set, upd]
   split
   ·exact .inr ⟨_, _, rfl, rfl, (CoL.refl l).set c h⟩
   ·exact (CoSt.refl st).hp o'
theorem CoSt.bump {st st' : St} (h : CoSt st st') (r : Root) : CoSt (st.bump r) (st'.bump r) := by
 cases r with
 | slot t j => exact ⟨h.sl, h.hp, h.nx, by simp [St.bump, h.vs], h.hv⟩
 | obj o c => exact ⟨h.sl, h.hp, h.nx, h.vs, by simp [St.bump, h.hv]⟩
theorem storeAdr_sim (h : Sim μ F Γ st) {n : Nat} {cells : List TC} {p : Place} {k i c : Nat} {d : TC} (hd : (atR F Γ p).ok d) (hx : (storeAdr F Γ n cells p k i c d).ok Γ') {as : List AV} (ha : avs μ st.ver (lnT F Γ) cells as) :
  ∃ xs, st.at (p.mu μ) = some (.sl .own k xs) ∧ i < xs.length ∧ c + n ≤ k ∧
   WOk μ st.hp.next F Γ' (if (((xs.getD i []).drop c).take n).any AV.isOwn then (st.putAt (p.mu μ) (.sl .own k (xs.set i (setCells (xs.getD i []) c as)))).bump (p.mu μ).root else st.putAt (p.mu μ) (.sl .own k (xs.set i (setCells (xs.getD i []) c as)))) := by
 cases d with
 | sl τ tt e l =>
  cases τ with
  | own =>
   simp only [storeAdr] at hx
   split at hx
   case isFalse => exact (R.ok_fail.1 hx).elim
   rename_i hc
   obtain ⟨hk, hcn⟩ := hc
   subst hk
   rw [R.ok_bind] at hx
   obtain ⟨_, h1, hx⟩ := hx
   have hi := R.ok_need.1 h1
   rw [R.ok_bind] at hx
   obtain ⟨x, h2, hx⟩ := hx
   have h2 := R.ok_ofOpt.1 h2
   rw [R.ok_bind] at hx
   obtain ⟨c0, h3, hx⟩ := hx
   have h3 := R.ok_ofOpt.1 h3
   rw [R.ok_bind] at hx
   obtain ⟨c1, h4, hx⟩ := hx
   have hu := R.ok_ofOpt.1 hx
   obtain ⟨q1, q2⟩ := own_sim h hd
   refine ⟨_, q1, by simpa using hi, hcn, ?_⟩
   rw [map_getD (e.enc tt) l i e.dflt [] hi]
   generalize hbT : (((e.ex tt (l.getD i e.dflt)).drop c).take n).any ownish = bump at hu
   generalize hbA : (((e.enc tt (l.getD i e.dflt)).drop c).take n).any AV.isOwn = bumpA
   have hbump : bump = false → bumpA = false := by
    intro hb
    rw [← hbA]
    rw [← hbT] at hb
    exact ownish_any hb (all_take_drop (ex_solid _ _ _) c n) (avs_sub (ex_av (μ := μ) (ver := st.ver) (ln := lnT F Γ) e tt _) c n)
   obtain ⟨a0, ha0, hav0⟩ := root_sim h h3
   have hput : ∀ u, st.putAt (p.mu μ) u = st.setRoot (p.root.mu μ) (a0.put p.path u) := by
    intro u
    simp only [St.putAt, Place.mu, ha0]
   rw [hput]
   have hcoL : CoL (setCells (e.enc tt (l.getD i e.dflt)) c as) (e.enc tt x) := imAll_ok h2 (setT_avs c (ex_av (μ := μ) (ver := st.ver) (ln := lnT F Γ) e tt _) ha)
   obtain ⟨a1, hav1, hco1⟩ := putIn_co (u := .sl .own e.size ((l.map (e.enc tt)).set i (setCells (e.enc tt (l.getD i e.dflt)) c as))) h4 hav0 (show (TC.sl .own tt e (l.set i x)).av μ st.ver (lnT F Γ) _ from rfl)
    (.sl _ _ _ _ _ (.inl rfl) (by rw [map_set']; exact (CoLL.refl _).set i hcoL))
   have hsol1 : c1.solidT = true := by
    cases hp : p.path with
    | nil =>
     rw [hp] at h4
     have h4 : (Pure.pure (TC.sl .own tt e (l.set i x)) : R TC).ok c1 := by cases c0 <;> first | exact h4 | (rename_i τ _ _ _; cases τ <;> exact h4)
     have := R.ok_pure.1 h4
     subst this
     rfl
    | cons s r => exact (putIn_len h4 (by rw [hp]; simp)).2
   have fin : ∀ st' : St, st'.sl = (st.setRoot (p.root.mu μ) a1).sl → st'.hp = (st.setRoot (p.root.mu μ) a1).hp → (∀ q, (onRoot p.root q = false ∨ bump = false) → st'.ver (q.mu μ).root = st.ver (q.mu μ).root) → Sim μ F Γ' st' := by
    intro st' e1 e2 hv
    refine putRoot_sim h hu h3 (b := a1) e1 e2 ?_ ?_ ?_ (solid_av' hsol1 hav1) (.inl hsol1)
    ·intro q hq
     simp only [rootHit, Bool.and_eq_false_iff, Bool.or_eq_false_iff] at hq
     exact hv q (hq.imp id (·.1))
    ·intro q hq
     simp only [Bool.and_eq_false_iff] at hq
     exact hv q hq
    ·intro q hq hqr m hm
     have h5 := onRoot_self hqr
     simp only [rootHit, h5, Bool.true_and, Bool.or_eq_false_iff] at hq
     have hpath : q.path = [] := by
      cases hqp : q.path with
      | nil => rfl
      | cons s r => simp [deep, hqp] at hq
     unfold lnT atT at hm ⊢
     rw [hqr, hpath] at hm ⊢
     cases hc1 : rootT F Γ' p.root with
     | none => rw [hc1] at hm; simp at hm
     | some c1' =>
      rw [hc1, Option.bind_some] at hm
      have := putRoot_root h.ss hu hc1
      subst this
      rw [h3, Option.bind_some]
      have eS : ∀ c : TC, c.atS [] = some c := by intro c; cases c <;> first | rfl | (rename_i τ _ _ _; cases τ <;> rfl)
      rw [eS, Option.bind_some] at hm ⊢
      cases hp : p.path with
      | nil =>
       rw [hp] at h4
       have h4 : (Pure.pure (TC.sl .own tt e (l.set i x)) : R TC).ok c1' := by cases c0 <;> first | exact h4 | (rename_i τ _ _ _; cases τ <;> exact h4)
       have := R.ok_pure.1 h4
       subst this
       have h6 := atR_atT hd
       simp only [atT, h3, hp, Option.bind_some, eS, Option.some.injEq] at h6
       subst h6
       simpa [TC.len?] using hm
      | cons s r => rw [← (putIn_len h4 (by rw [hp]; simp)).1]; exact hm
   cases hbA2 : bumpA with
   | true =>
    rw [if_pos rfl]
    refine ⟨μ, _, (CoSt.setRoot st (p.root.mu μ) hco1).bump _, fin _ ?_ ?_ ?_, MuLe.refl _ _⟩
    ·simp only [Place.mu]; cases p.root <;> rfl
    ·simp only [Place.mu]; cases p.root <;> rfl
    ·intro q hq
     rcases hq with hq | hq
     ·have e5 := onRoot_ver (st.setRoot (p.root.mu μ) a1) (μ := μ) hq
      simp only [Place.mu] at e5 ⊢
      rw [e5]
      exact ver_of_fields (setRoot_ver _ _ _).1 (setRoot_ver _ _ _).2 _
     ·have := hbump hq; rw [hbA2] at this; cases this
   | false =>
    rw [if_neg (by simp)]
    refine ⟨μ, _, CoSt.setRoot st (p.root.mu μ) hco1, fin _ rfl rfl ?_, MuLe.refl _ _⟩
    intro q _
    exact ver_of_fields (setRoot_ver _ _ _).1 (setRoot_ver _ _ _).2 _
  | _ => exact (R.ok_fail.1 hx).elim
 | _ => exact (R.ok_fail.1 hx).elim
theorem storeC_sim (h : Sim μ F Γ st) {n : Nat} {cells : List TC} {c : TC} {Γ' : TS} (hx : (storeC F Γ n cells c).ok Γ') (hs : cells.all TC.solidT = true) {as : List AV} (ha : avs μ st.ver (lnT F Γ) cells as) {a : AV} (hc : c.av μ st.ver (lnT F Γ) a) :
  as.length = n ∧ (match (generalizing := false) a with
   | .ptr o c => match st.hp.get o with
    | some l => do
     M.need (c + n ≤ l.length)
     let st2 : St := ⟨st.sl, st.hp.set o (setCells l c as), st.vs, st.hv⟩
     pure (if ((l.drop c).take n).any AV.isOwn then st2.bump (.obj o c) else st2)
    | none => M.fail
   | .adr p v k' i c => match st.at p with
    | some (.sl .own k xs) => do
     M.need (v = st.ver p.root)
     M.need (k' = k)
     M.need (i < xs.length)
     M.need (c + n ≤ k)
     let st2 := st.putAt p (.sl .own k (xs.set i (setCells (xs.getD i []) c as)))
     pure (if (((xs.getD i []).drop c).take n).any AV.isOwn then st2.bump p.root else st2)
    | _ => M.fail
   | _ => M.fail : M St).holds fun st' => WOk μ st.hp.next F Γ' st' := by
 have hlenA := avs_length ha
 cases c with
 | box b c =>
  have hc : a = _ := hc
  subst hc
  simp only [storeC] at hx
  split at hx
  case h_2 => exact (R.ok_fail.1 hx).elim
  rename_i l hl
  split at hx
  case isFalse => exact (R.ok_fail.1 hx).elim
  rename_i hcn
  have hu := R.ok_ofOpt.1 hx
  obtain ⟨k, q1, q2, q3, q4⟩ := h.bx b l hl
  have hlen := avs_length q2
  refine ⟨by omega, ?_⟩
  simp only [q1, M.holds_bind, M.holds_need]
  refine ⟨by omega, M.holds_pure' ⟨μ, _, CoSt.refl _, ?_, MuLe.refl _ _⟩⟩
  refine boxStore_sim h hl hcn.2 q1 hu hs (k' := setCells k c as) (fun ver' ln' hk' => setT_avs c hk' (solid_avs hs ha)) ?_ ?_ ?_ ?_
  ·split <;> rfl
  ·split <;> rfl
  ·split <;> rfl
  ·intro hb
   rw [if_neg]
   rw [ownish_any hb (all_take_drop q4 c n) (avs_sub q2 c n)]
   simp
 | boxd b c m i =>
  have hc : a = _ := hc
  subst hc
  simp only [storeC] at hx
  split at hx
  case h_2 => exact (R.ok_fail.1 hx).elim
  rename_i l d hl
  split at hx
  case h_2 => exact (R.ok_fail.1 hx).elim
  rename_i l2 hl2
  split at hx
  case isFalse => exact (R.ok_fail.1 hx).elim
  rename_i hcn
  obtain ⟨hcm, rfl⟩ := hcn
  rw [R.ok_bind] at hx
  obtain ⟨_, h1, hx⟩ := hx
  have hi := R.ok_need.1 h1
  have hu := R.ok_ofOpt.1 hx
  obtain ⟨k, q1, q2, q3, q4⟩ := h.bx b l hl
  have hlen := avs_length q2
  match as, ha with
  | [a0], ha =>
   refine ⟨rfl, ?_⟩
   simp only [q1, M.holds_bind, M.holds_need]
   refine ⟨by omega, M.holds_pure' ⟨μ, _, CoSt.refl _, ?_, MuLe.refl _ _⟩⟩
   have hsd : d.solidT = true := by simpa using hs
   have nob : ((k.drop (c + i)).take 1).any AV.isOwn = false := by
    have hlt : c + i < k.length := by omega
    rw [one_at (List.getElem?_eq_getElem hlt)]
    have hll : ((l.drop c).take m)[i]? = some l[c + i] := by
     rw [List.getElem?_take_of_lt hi, List.getElem?_drop, List.getElem?_eq_getElem (by omega)]
    obtain ⟨a', ha', hav⟩ := avs_get q2 (List.getElem?_eq_getElem (by omega : c + i < l.length))
    have e0 : k[c + i] = a' := by simpa [List.getElem?_eq_getElem hlt] using ha'
    rw [e0]
    have hkind : ∀ (ll l2 : List TC) (j0 i0 : Nat) (x : TC), updI i d j0 ll = some l2 → ll[i0]? = some x → (∃ k n, x = .int k n) ∨ ∃ s, x = .str s := by
     intro ll
     induction ll with
     | nil => intro l2 j0 i0 x _ hx; simp at hx
     | cons y ll ih =>
      intro l2 j0 i0 x hup hx
      simp only [updI] at hup
      split at hup
      ·rename_i m' hm
       cases i0 with
       | zero => simp at hx; exact .inl ⟨_, _, hx.symm⟩
       | succ i0 => exact ih _ _ i0 x hm (by simpa using hx)
      ·rename_i m' hm
       cases i0 with
       | zero => simp at hx; exact .inr ⟨_, hx.symm⟩
       | succ i0 => exact ih _ _ i0 x hm (by simpa using hx)
      ·cases hup
    rcases hkind _ _ 0 i _ hl2 hll with ⟨k', n', e1⟩ | ⟨s', e1⟩
    ·rw [e1] at hav; have hav : a' = _ := hav; subst hav; rfl
    ·rw [e1] at hav; have hav : a' = _ := hav; subst hav; rfl
   rw [nob, if_neg (by simp)]
   refine boxStore_sim (n := m) h hl ?_ q1 hu ?_ (k' := setCells k (c + i) [a0]) ?_ rfl rfl rfl (fun _ => rfl)
   ·have := (updI_av ha.1 0 hl2 (avs_sub q2 c m)).2.2
    rw [this]; simp; omega
   ·exact (updI_av ha.1 0 hl2 (avs_sub q2 c m)).2.1
   ·intro ver' ln' hk'
    have h5 := (updI_av ha.1 0 hl2 (avs_sub q2 c m))
    have h6 : avs μ ver' ln' l2 (((k.drop c).take m).set i a0) := by
     have := solid_avs (ver' := ver') (ln' := ln') h5.2.1 h5.1
     simpa using this
    have := setT_avs c hk' h6
    rw [← set_in hi (by omega)] at this
    exact this
  | [], ha => exact ha.elim
  | _ :: _ :: _, ha => exact ha.2.elim
 | adr p tt0 e i c =>
  have hc : a = _ := hc
  subst hc
  simp only [storeC] at hx
  split at hx
  case isFalse => exact (R.ok_fail.1 hx).elim
  rename_i hn
  rw [R.ok_bind] at hx
  obtain ⟨d, h1, hx⟩ := hx
  obtain ⟨xs, e1, e2, e3, e4⟩ := storeAdr_sim h h1 hx ha
  refine ⟨by omega, ?_⟩
  simp only [e1, M.holds_bind, M.holds_need]
  exact ⟨trivial, trivial, e2, e3, M.holds_pure' e4⟩
 | _ => exact (R.ok_fail.1 hx).elim
theorem husk_av {c : TC} (hk : c.known = true) {a : AV} (h : c.av μ ver ln a) : c.husk.av μ ver ln (if a.isOwn then .dead else a) := by
 cases c with
 | sl τ tt e l =>
  have h : a = _ := h
  subst h
  cases τ with
  | own => exact trivial
  | _ => exact rfl
 | dead => cases hk
 | ref => cases hk
 | adr => cases hk
 | _ => (have h : a = _ := h); subst h; exact rfl
theorem husk_avs : ∀ {l : List TC}, l.all TC.known = true → ∀ {as : List AV}, avs μ ver ln l as → avs μ ver ln (l.map TC.husk) (as.map fun a => if a.isOwn then .dead else a)
 | [], _, [], _ => trivial
 | c :: l, hk, a :: as, h => by
  simp only [List.all_cons, Bool.and_eq_true] at hk
  exact ⟨husk_av hk.1 h.1, husk_avs hk.2 h.2⟩
 | [], _, _ :: _, h => h.elim
 | _ :: _, _, [], h => h.elim
theorem known_solid {c : TC} (hk : c.known = true) {a : AV} (h : c.av μ ver ln a) : c.solidT = true ∧ a.solid = true := by
 cases c with
 | dead => cases hk
 | ref => cases hk
 | adr => cases hk
 | _ => (have h : a = _ := h); subst h; exact ⟨rfl, rfl⟩
theorem known_solids : ∀ {l : List TC}, l.all TC.known = true → ∀ {as : List AV}, avs μ ver ln l as → l.all TC.solidT = true ∧ as.all AV.solid = true
 | [], _, [], _ => ⟨rfl, rfl⟩
 | c :: l, hk, a :: as, h => by
  simp only [List.all_cons, Bool.and_eq_true] at hk ⊢
  obtain ⟨h1, h2⟩ := known_solid hk.1 h.1
  obtain ⟨h3, h4⟩ := known_solids hk.2 h.2
  exact ⟨⟨h1, h3⟩, h2, h4⟩
 | [], _, _ :: _, h => h.elim
 | _ :: _, _, [], h => h.elim
theorem svs_get : ∀ {l : List TSV} {m : List SV}, svs μ ver ln l m → ∀ {i : Nat} {v : TSV}, l[i]? = some v → ∃ s, m[i]? = some s ∧ v.sv μ ver ln s
 | [], [], _, i, v, h => by simp at h
 | x :: l, y :: m, h, 0, v, hv => by simp at hv; subst hv; exact ⟨y, rfl, h.1⟩
 | x :: l, y :: m, h, i + 1, v, hv => by simpa using svs_get h.2 (i := i) (by simpa using hv)
 | [], _ :: _, h, _, _, _ => h.elim
 | _ :: _, [], h, _, _, _ => h.elim
theorem svs_set : ∀ {l : List TSV} {m : List SV}, svs μ ver ln l m → ∀ (i : Nat) {v : TSV} {s : SV}, v.sv μ ver ln s → svs μ ver ln (l.set i v) (m.set i s)
 | [], [], _, i, v, s, _ => by simp [svs]
 | x :: l, y :: m, h, 0, v, s, hv => ⟨hv, h.2⟩
 | x :: l, y :: m, h, i + 1, v, s, hv => ⟨h.1, svs_set h.2 i hv⟩
 | [], _ :: _, h, _, _, _, _ => h.elim
 | _ :: _, [], h, _, _, _, _ => h.elim
theorem takeA_sim (h : Sim μ F Γ st) {x : Opd} {v : TSV} (hx : (takeA F Γ x).ok (v, Γ')) : (st.take false x).holds fun (s, st') => v.sv μ st'.ver (lnT F Γ') s ∧ Sim μ F Γ' st' := by
 unfold takeA at hx
 rw [R.ok_bind] at hx
 obtain ⟨v0, h1, hx⟩ := hx
 split at hx
 ·have := R.ok_pure.1 hx
  cases this
  have hu := use_sim h (b := true) (fun _ => rfl) h1
  simp only [St.take, M.holds_bind]
  refine M.holds_mono hu ?_
  rintro _ ⟨a, rfl, ha⟩
  have ha : a = _ := ha
  subst ha
  simp only [SV.cells, St.takeCells, St.takeCell, M.holds_bind]
  refine M.holds_pure' (M.holds_pure' (M.holds_pure' (M.holds_pure' ?_)))
  exact ⟨⟨_, rfl, rfl⟩, h⟩
 ·exact (take_sim h hx).2
theorem effW_sim (h : Sim μ F Γ st) {dst : Option Nat} {ty : Option (BT × TT)} {op : AOp} (hW : op.isW = true) (hx : (effWT F Γ dst ty op).ok Γ') : (st.effW dst op).holds fun st' => WOk μ st.hp.next F Γ' st' := by
 cases op with
 | asg x =>
  cases dst with
  | none => exact (R.ok_fail.1 hx).elim
  | some d =>
   simp only [effWT] at hx
   rw [R.ok_bind] at hx
   obtain ⟨⟨v, Γ1⟩, h1, hx⟩ := hx
   have h2 := takeA_sim h h1
   simp only [St.effW, M.holds_bind]
   refine M.holds_mono h2 ?_
   rintro ⟨s, st1⟩ ⟨k1, k2⟩
   exact M.holds_pure' ⟨μ, _, CoSt.refl _, set_sim k2 hx ⟨s, rfl, k1⟩, MuLe.refl _ _⟩
 | alloc zero =>
  cases dst with
  | none => exact (R.ok_fail.1 hx).elim
  | some d =>
   simp only [effWT] at hx
   simp only [St.effW]
   have hz : ∀ zs : List Value, avs μ st.ver (lnT F Γ) (zs.map constC) (zs.map .lit) := by
    intro zs
    induction zs with
    | nil => exact trivial
    | cons z zs ih => exact ⟨constC_av z, ih⟩
   exact M.holds_pure' (allocT_sim h hx (hz zero))
 | box x =>
  cases dst with
  | none => exact (R.ok_fail.1 hx).elim
  | some d =>
   simp only [effWT] at hx
   rw [R.ok_bind] at hx
   obtain ⟨⟨v, Γ1⟩, h1, hx⟩ := hx
   obtain ⟨hs, h2⟩ := take_sim h h1
   have hv : ∀ f l, v ≠ .clo f l := by rintro f l rfl; exact R.ok_fail.1 hx
   have hx : (allocT F Γ1 d v.cells).ok Γ' := by cases v <;> first | exact hx | exact (hv _ _ rfl).elim
   simp only [St.effW, M.holds_bind]
   refine M.holds_mono (M.holds_and h2 (take_next st true x)) ?_
   rintro ⟨s, st1⟩ ⟨⟨k1, k2⟩, k0⟩
   have := allocT_sim k2 hx (cells_sv hv k1)
   rw [show st1.hp.next = st.hp.next from k0] at this
   rw [show st1.hp.next = st.hp.next from k0]
   exact M.holds_pure' this
 | buildSl k zero len parts =>
  cases dst with
  | none => exact (R.ok_fail.1 hx).elim
  | some d =>
   cases ty with
   | none => exact (R.ok_fail.1 hx).elim
   | some ety =>
    obtain ⟨e, tt⟩ := ety
    simp only [effWT] at hx
    split at hx
    case isFalse => exact (R.ok_fail.1 hx).elim
    rename_i hk
    subst hk
    rw [R.ok_bind] at hx
    obtain ⟨z, h1, hx⟩ := hx
    rw [R.ok_bind] at hx
    obtain ⟨⟨l, Γ1⟩, h2, hx⟩ := hx
    have hz := zero_co (R.ok_ofOpt.1 h1)
    simp only [St.effW, M.holds_bind]
    refine M.holds_mono (takePs_sim h (repl_co (e.enc tt) hz len) h2) ?_
    rintro ⟨xs, st1⟩ ⟨k1, k2⟩
    exact M.holds_pure' ⟨μ, _, CoSt.set (.val _ _ _ (.one _ _ (.sl _ _ _ _ _ (.inl rfl) k1))), set_sim k2 hx ⟨_, rfl, _, rfl, rfl⟩, MuLe.refl _ _⟩
 | store n a x =>
  simp only [effWT] at hx
  rw [R.ok_bind] at hx
  obtain ⟨⟨v, Γ1⟩, h1, hx⟩ := hx
  obtain ⟨hs, h2⟩ := take_sim h h1
  have hv : ∀ f l, v ≠ .clo f l := by rintro f l rfl; exact R.ok_fail.1 hx
  have hx : (do
   let c ← useO F Γ1 [] a
   storeC F Γ1 n v.cells c : R TS).ok Γ' := by cases v <;> first | exact hx | exact (hv _ _ rfl).elim
  rw [R.ok_bind] at hx
  obtain ⟨c, h3, hx⟩ := hx
  have hss : v.cells.all TC.solidT = true := by
   cases v with
   | one c => simpa [TSV.cells, TSV.solidV] using hs
   | agg l => exact hs
   | clo f l => rfl
  simp only [St.effW, M.holds_bind]
  refine M.holds_mono (M.holds_and h2 (take_next st true x)) ?_
  rintro ⟨s, st1⟩ ⟨⟨k1, k2⟩, k0⟩
  have k0 : st1.hp.next = st.hp.next := k0
  rw [← k0]
  have k3 := cells_sv hv k1
  have key := fun a ha => storeC_sim k2 hx hss k3 (a := a) ha
  obtain ⟨u, hu1, hu2⟩ := (M.holds_iff _ _).1 (useO_sim k2 (b := true) (fun _ => rfl) h3)
  have hlen := (key u hu2).1
  rw [if_pos hlen]
  simp only [M.holds_bind]
  refine M.holds_mono hu1 ?_
  rintro _ rfl
  exact (key _ hu2).2
 | app k bytes s x =>
  cases dst with
  | none => exact (R.ok_fail.1 hx).elim
  | some d =>
   cases ty with
   | none => exact (R.ok_fail.1 hx).elim
   | some ety =>
    obtain ⟨e, tt⟩ := ety
    simp only [effWT] at hx
    split at hx
    case isFalse => exact (R.ok_fail.1 hx).elim
    rename_i hk
    obtain ⟨rfl, hby⟩ := hk
    rw [R.ok_bind] at hx
    obtain ⟨⟨ys, Γ1⟩, h1, hx⟩ := hx
    rw [R.ok_bind] at hx
    obtain ⟨⟨v, Γ2⟩, h2, hx⟩ := hx
    rw [R.ok_bind] at hx
    obtain ⟨xs, h3, hx⟩ := hx
    rw [R.ok_bind] at hx
    obtain ⟨_, h4, hx⟩ := hx
    have h4 : (xs.length + ys.length) * bytes ≤ 140737488355328 := R.ok_need.1 h4
    simp only [St.effW, M.holds_bind]
    refine M.holds_mono (source_sim h h1) ?_
    rintro ⟨ysA, st1⟩ ⟨k1, k2⟩
    refine M.holds_mono (base_sim k2 h2 h3) ?_
    rintro ⟨xsA, st2⟩ ⟨k3, k4⟩
    simp only [M.holds_need]
    have e1 : ysA.length = ys.length := by simpa using k1.length
    have e2 : xsA.length = xs.length := by simpa using k3.length
    refine ⟨by rw [e1, e2]; exact h4, ?_, M.holds_pure' ⟨μ, _, CoSt.set (.val _ _ _ (.one _ _ (.sl _ _ _ _ _ (.inl rfl) (k3.append k1)))), set_sim k4 hx ⟨_, rfl, _, rfl, ?_⟩, MuLe.refl _ _⟩⟩
    ·rw [e1, e2]
     have : (xs.length + ys.length) * 1 ≤ (xs.length + ys.length) * bytes := Nat.mul_le_mul_left _ hby
     omega
    ·simp [TC.av]
 | ext x i =>
  cases x with
  | c v => exact (R.ok_fail.1 hx).elim
  | f nm => exact (R.ok_fail.1 hx).elim
  | t n =>
   cases dst with
   | none => exact (R.ok_fail.1 hx).elim
   | some d =>
    simp only [effWT] at hx
    split at hx
    case h_2 => exact (R.ok_fail.1 hx).elim
    rename_i l hl
    split at hx
    case h_2 => exact (R.ok_fail.1 hx).elim
    rename_i v hv
    split at hx
    case isFalse => exact (R.ok_fail.1 hx).elim
    rename_i hkn
    rw [R.ok_bind] at hx
    obtain ⟨Γ1, h1, hx⟩ := hx
    obtain ⟨m, heq, hm⟩ := h.sl n _ hl
    obtain ⟨s, hs, hsv⟩ := svs_get hm hv
    have hsol : v.solidV = true ∧ s.cells.all AV.solid = true ∧ v.husk.sv μ st.ver (lnT F Γ) s.husk := by
     cases v with
     | one c =>
      obtain ⟨a, rfl, ha⟩ := hsv
      obtain ⟨q1, q2⟩ := known_solid hkn ha
      exact ⟨q1, by simp [SV.cells, q2], _, rfl, husk_av hkn ha⟩
     | agg l' =>
      obtain ⟨a, rfl, ha⟩ := hsv
      obtain ⟨q1, q2⟩ := known_solids hkn ha
      exact ⟨q1, q2, _, rfl, husk_avs hkn ha⟩
     | clo f l' =>
      obtain ⟨a, rfl, ha⟩ := hsv
      obtain ⟨q1, q2⟩ := known_solids hkn ha
      exact ⟨q1, rfl, a, rfl, ha⟩
    have k1 := set_sim h h1 (y := .tup (m.set i s.husk)) ⟨_, rfl, svs_set hm i hsol.2.2⟩
    have k2 := set_sim k1 hx (y := .val true s) ⟨s, rfl, solid_sv hsol.1 hsv⟩
    simp only [St.effW, heq, hs, M.holds_bind, M.holds_need]
    exact ⟨hsol.2.1, M.holds_pure' ⟨μ, _, CoSt.refl _, k2, MuLe.refl _ _⟩⟩
 | _ => cases hW
theorem mk_sim (h : Sim μ F Γ st) {dst : Option Nat} {ty : Option (BT × TT)} {k bytes : Nat} {zero : List Value} {l c : Opd} (hx : (effWT F Γ dst ty (.mkSl k bytes zero l c)).ok Γ') :
  (st.effR true (.mkSl k bytes zero l c)).holds fun s => WOk μ st.hp.next F Γ' (st.setD dst (.val true s)) := by
 cases dst with
 | none => exact (R.ok_fail.1 hx).elim
 | some d =>
  cases ty with
  | none => exact (R.ok_fail.1 hx).elim
  | some ety =>
   obtain ⟨e, tt⟩ := ety
   simp only [effWT] at hx
   split at hx
   case isFalse => exact (R.ok_fail.1 hx).elim
   rename_i hk
   obtain ⟨rfl, hby⟩ := hk
   rw [R.ok_bind] at hx
   obtain ⟨n, h1, hx⟩ := hx
   rw [R.ok_bind] at hx
   obtain ⟨m, h2, hx⟩ := hx
   rw [R.ok_bind] at hx
   obtain ⟨z, h3, hx⟩ := hx
   rw [R.ok_bind] at hx
   obtain ⟨_, h4, hx⟩ := hx
   have h4 := R.ok_need.1 h4
   have hz := zero_co (R.ok_ofOpt.1 h3)
   simp only [St.effR, M.holds_bind]
   refine M.holds_mono (useI_sim h (b := true) (fun _ => rfl) h1) fun x0 e0 => ?_
   rw [e0]
   clear e0 x0
   refine M.holds_mono (useI_sim h (b := true) (fun _ => rfl) h2) fun x0 e0 => ?_
   rw [e0]
   clear e0 x0
   simp only [M.holds_need]
   refine ⟨fun _ => h4, fun _ => ?_, trivial, M.holds_pure' ⟨μ, _, CoSt.set (.val _ _ _ (.one _ _ (.sl _ _ _ _ _ (.inl rfl) (repl_co (e.enc tt) hz n.toNat)))), set_sim h hx ⟨_, rfl, _, rfl, rfl⟩, MuLe.refl _ _⟩⟩
   have hb1 : (1 : Int) ≤ bytes := by omega
   have hm0 : 0 ≤ m := by omega
   have : (1 : Int) * m ≤ bytes * m := Int.mul_le_mul_of_nonneg_right hb1 hm0
   omega
end
theorem takeParts_next (k : Nat) : ∀ (l : List (Nat × Opd)) (xs : List (List AV)) (st : St), (takeParts st k xs l).all fun p => p.2.hp.next = st.hp.next
 | [], xs, st => M.all_pure rfl
 | (i, x) :: r, xs, st => by
  refine M.all_bind (M.all_mono (take_next st true x) ?_)
  rintro ⟨s, st1⟩ h1
  show M.all (if s.cells.length = k then takeParts st1 k (xs.set i s.cells) r else M.fail) _
  split
  ·exact M.all_mono (takeParts_next k r _ st1) fun p hp => hp.trans h1
  ·exact M.all_fail
theorem source_next (st : St) (k : Nat) (x : Opd) : (st.source k x).all fun p => p.2.hp.next = st.hp.next := by
 unfold St.source
 split
 ·exact M.all_pure rfl
 ·split
  ·exact M.all_bind (M.all_need (M.all_bind (M.all_need (M.all_pure rfl))))
  ·exact M.all_bind (M.all_need (M.all_bind (M.all_need (M.all_pure rfl))))
  ·exact M.all_bind (M.all_need (M.all_pure rfl))
  ·split
   ·exact M.all_bind (M.all_need (M.all_bind (M.all_need (M.all_bind (M.all_need (M.all_bind (M.all_need (M.all_bind (M.all_need (M.all_bind (M.all_need (M.all_pure rfl))))))))))))
   ·exact M.all_fail
  ·exact M.all_fail
 ·exact M.all_fail
theorem base_next (st : St) (k : Nat) (x : Opd) : (st.base k x).all fun p => p.2.hp.next = st.hp.next := by
 unfold St.base
 refine M.all_bind (M.all_mono (take_next st false x) ?_)
 rintro ⟨s, st1⟩ h1
 dsimp only
 split
 ·exact M.all_bind (M.all_need (M.all_pure h1))
 ·exact M.all_pure h1
 ·exact M.all_fail
theorem effW_next (st : St) (dst : Option Nat) (op : AOp) : (st.effW dst op).all fun st' => st.hp.next ≤ st'.hp.next := by
 cases op with
 | asg x =>
  cases dst with
  | none => exact M.all_fail
  | some d =>
   refine M.all_bind (M.all_mono (take_next st false x) ?_)
   rintro ⟨s, st1⟩ h1
   exact M.all_pure (Nat.le_of_eq h1.symm)
 | alloc zero =>
  cases dst with
  | none => exact M.all_fail
  | some d => exact M.all_pure (Nat.le_succ _)
 | box x =>
  cases dst with
  | none => exact M.all_fail
  | some d =>
   refine M.all_bind (M.all_mono (take_next st true x) ?_)
   rintro ⟨s, st1⟩ h1
   exact M.all_pure (Nat.le_trans (Nat.le_of_eq h1.symm) (Nat.le_succ _))
 | buildSl k zero len parts =>
  cases dst with
  | none => exact M.all_fail
  | some d =>
   refine M.all_bind (M.all_mono (takeParts_next k parts _ st) ?_)
   rintro ⟨s, st1⟩ h1
   exact M.all_pure (Nat.le_of_eq h1.symm)
 | store n a x =>
  refine M.all_bind (M.all_mono (take_next st true x) ?_)
  rintro ⟨s, st1⟩ h1
  have h1 : st.hp.next ≤ st1.hp.next := Nat.le_of_eq h1.symm
  dsimp only
  split
  case isFalse => exact M.all_fail
  refine M.all_bind (M.all_true _ fun a => ?_)
  split
  ·split
   ·refine M.all_bind (M.all_need (M.all_pure ?_))
    split
    ·rw [bump_next]; exact h1
    ·exact h1
   ·exact M.all_fail
  ·split
   ·refine M.all_bind (M.all_need (M.all_bind (M.all_need (M.all_bind (M.all_need (M.all_bind (M.all_need (M.all_pure ?_))))))))
    split
    ·rw [bump_next, putAt_next]; exact h1
    ·rw [putAt_next]; exact h1
   ·exact M.all_fail
  ·exact M.all_fail
 | app k bytes s x =>
  cases dst with
  | none => exact M.all_fail
  | some d =>
   refine M.all_bind (M.all_mono (source_next st k x) ?_)
   rintro ⟨ys, st1⟩ h1
   refine M.all_bind (M.all_mono (base_next st1 k s) ?_)
   rintro ⟨xs, st2⟩ h2
   exact M.all_bind (M.all_need (M.all_bind (M.all_need (M.all_pure (Nat.le_of_eq (h2.trans h1).symm)))))
 | ext x i =>
  cases dst with
  | none => cases x <;> exact M.all_fail
  | some d =>
   cases x with
   | t n =>
    simp only [St.effW]
    split
    ·split
     ·exact M.all_bind (M.all_need (M.all_pure (Nat.le_refl _)))
     ·exact M.all_fail
    ·exact M.all_fail
   | _ => exact M.all_fail
 | _ => exact M.all_fail
end Go.VS
namespace Go.VS
inductive PT
 | val (agg : Bool) (t : BT) (tt : TT)
 | ptr (t : BT) (tt : TT)
def PT.bt : PT → BT
 | .val _ t _ => t
 | .ptr t _ => t
def PT.tt : PT → TT
 | .val _ _ tt => tt
 | .ptr _ tt => tt
def PT.isPtr : PT → Bool
 | .val .. => false
 | .ptr .. => true
structure Sig where
 ps : List PT
 rs : List PT
 deriving Inhabited
def tyP : List PT → BT
 | [] => .unit
 | [p] => p.bt
 | p :: r => .pair p.bt (tyP r)
def ttP : List PT → TT
 | [] => .leaf
 | [p] => p.tt
 | p :: r => .pair p.tt (ttP r)
@[reducible] def DP (l : List PT) : Type := (tyP l).D
def cellsP (l : List PT) (x : DP l) : List TC := (tyP l).ex (ttP l) x
def readP (l : List PT) (cs : List TC) : Option (DP l) := (tyP l).imAll (ttP l) cs
def ptrs (l : List PT) : List PT := l.filter PT.isPtr
def argsOf : List PT → Nat → List TC → List TSV
 | [], _, _ => []
 | .val agg t _ :: r, i, cs => mkT agg (cs.take t.size) :: argsOf r (i + 1) (cs.drop t.size)
 | .ptr t _ :: r, i, cs => .one (.box i 0) :: argsOf r (i + 1) (cs.drop t.size)
def boxesOf : List PT → Nat → List TC → List (Nat × List TC)
 | [], _, _ => []
 | .val _ t _ :: r, i, cs => boxesOf r (i + 1) (cs.drop t.size)
 | .ptr t _ :: r, i, cs => (i, cs.take t.size) :: boxesOf r (i + 1) (cs.drop t.size)
def boxesOut : List PT → Nat → List TC → List (Nat × List TC)
 | [], _, _ => []
 | .val .. :: r, i, cs => boxesOut r (i + 1) cs
 | .ptr t _ :: r, i, cs => (i, cs.take t.size) :: boxesOut r (i + 1) (cs.drop t.size)
def dv : Root → Nat := fun _ => 0
def dl : Place → Option Nat := fun _ => none
structure HeapIs (μ : Nat → Nat) (B : List (Nat × List TC)) (H : Heap) : Prop where
 get : ∀ b l, look B b = some l → ∃ m, H.get (μ b) = some m ∧ avs μ dv dl l m ∧ μ b < H.next
 inj : ∀ b b' l l', look B b = some l → look B b' = some l' → μ b = μ b' → b = b'
 only : ∀ o m, H.get o = some m → ∃ b l, look B b = some l ∧ μ b = o
structure FnPost (S : Sig) (μ : Nat → Nat) (H : Heap) (d : DP S.rs) (d' : DP (ptrs S.ps)) (r : TV) (H' : Heap) : Prop where
 res : ∃ μ' ss ss', (∀ i, i < rbase → μ' i = μ i) ∧ r = gather ss ∧ CoSs ss ss' ∧ svs μ' dv dl (argsOf S.rs rbase (cellsP S.rs d)) ss' ∧
  (∀ b l, look (boxesOut S.ps 0 (cellsP (ptrs S.ps) d') ++ boxesOf S.rs rbase (cellsP S.rs d)) b = some l → ∃ m m', H'.get (μ' b) = some m ∧ CoL m m' ∧ avs μ' dv dl l m' ∧ μ' b < H'.next) ∧
  (∀ b, rbase ≤ b → H.next ≤ μ' b) ∧ H.next ≤ H'.next
def Fn (P : Program) (nm : String) (S : Sig) (x : DP S.ps) (K : DP S.rs → DP (ptrs S.ps) → Prop) : Prop :=
 ∀ (μ : Nat → Nat) (H : Heap) (as : List SV), svs μ dv dl (argsOf S.ps 0 (cellsP S.ps x)) as → HeapIs μ (boxesOf S.ps 0 (cellsP S.ps x)) H →
  ACall P nm as H fun r H' => ∃ d d', FnPost S μ H d d' r H' ∧ K d d'
theorem Fn.mono {P : Program} {nm : String} {S : Sig} {x : DP S.ps} {K K' : DP S.rs → DP (ptrs S.ps) → Prop} (h : Fn P nm S x K) (hk : ∀ d d', K d d' → K' d d') : Fn P nm S x K' :=
 fun μ H as h1 h2 => (h μ H as h1 h2).mono fun _ _ ⟨d, d', h3, h4⟩ => ⟨d, d', h3, hk d d' h4⟩
def TT.lend : TT → TT
 | .leaf => .leaf
 | .node .own e => .node .brw e.lend
 | .node τ e => .node τ e
 | .pair a b => .pair a.lend b.lend
def TT.frz : TT → TT
 | .leaf => .leaf
 | .node .own e => .node .imm e.frz
 | .node τ e => .node τ e
 | .pair a b => .pair a.frz b.frz
section
variable (F Γ : TS)
def argR (w : Option (Nat × Nat)) (k : Nat) : TC → R TC
 | .sl .own tt e l => if e.size = k then (match w with
   | none => pure (.sl .brw tt.lend e l)
   | some (lo, n) => (do
    R.need (lo + n ≤ l.length)
    pure (.sl .brw tt.lend e ((l.drop lo).take n))))
  else R.fail
 | _ => R.fail
def argC (imp : Bool) : TC → R TC
 | .ref p _ e w => if (imp && onObj p) = false then (do
   let d ← atR F Γ p
   argR w e.size d)
  else R.fail
 | .sl .own tt e l => pure (.sl .imm tt.frz e l)
 | .adr .. => R.fail
 | .iadr .. => R.fail
 | .iadrd .. => R.fail
 | .dead => R.fail
 | c => pure c
def argCs (imp : Bool) : List TC → R (List TC)
 | [] => pure []
 | c :: l => do
  let d ← argC F Γ imp c
  let m ← argCs imp l
  pure (d :: m)
def argV (imp : Bool) : TSV → R TSV
 | .one c => do
  let d ← argC F Γ imp c
  pure (.one d)
 | .agg l => do
  let m ← argCs F Γ imp l
  pure (.agg m)
 | .clo f l => pure (.clo f l)
def argT (imp : Bool) (g : Gd) : Opd → R TSV
 | .c v => pure (.one (constC v))
 | .f nm => pure (.clo (nm, false) [])
 | .t n => match TS.slot F Γ n with
  | some (.val gd v) => bif gsub gd g then argV F Γ imp v else R.fail
  | _ => R.fail
def argsT (imp : Bool) (g : Gd) : List Opd → R (List TSV)
 | [] => pure []
 | x :: r => do
  let a ← argT F Γ imp g x
  let l ← argsT imp g r
  pure (a :: l)
def calleeT (imp : Bool) (g : Gd) : AOp → R (String × List TSV)
 | .call f xs => do
  let a ← argsT F Γ imp g xs
  pure (f, a)
 | .callv f xs => do
  let v ← useT F Γ g f
  match v with
  | .clo nm caps => do
   let a ← argsT F Γ imp g xs
   if caps.all TC.known then pure (nm.1, bif nm.2 then caps.map .one ++ a else a ++ caps.map .one) else R.fail
  | _ => R.fail
 | _ => R.fail
def matchA : List PT → Nat → List TSV → Option (List TC × List (Nat × Nat))
 | [], _, [] => some ([], [])
 | .val agg t _ :: ps, i, v :: vs => match v, agg, matchA ps (i + 1) vs with
  | .one c, false, some (cs, bs) => if t.size = 1 then some (c :: cs, bs) else none
  | .agg l, true, some (cs, bs) => if l.length = t.size then some (l ++ cs, bs) else none
  | _, _, _ => none
 | .ptr t _ :: ps, i, .one (.box b 0) :: vs => match look Γ.bx b, matchA ps (i + 1) vs with
  | some l, some (cs, bs) => if bs.any (fun p => Nat.beq p.2 b) = false ∧ l.length = t.size then some (l ++ cs, (i, b) :: bs) else none
  | _, _ => none
 | _, _, _ => none
def frzS (Γ : TS) : Opd → R TS
 | .t n => match TS.slot F Γ n with
  | some (.val _ v) => bif v.cells.any ownish then setS F Γ n .gone else pure Γ
  | _ => setS F Γ n .gone
 | _ => pure Γ
def frzSs (Γ : TS) : List Opd → R TS
 | [] => pure Γ
 | x :: r => do
  let Γ1 ← frzS F Γ x
  frzSs Γ1 r
end
def renB (bs : List (Nat × Nat)) : List (Nat × List TC) → List (Nat × List TC)
 | [] => []
 | (i, l) :: r => match look bs i with
  | some b => (b, l) :: renB bs r
  | none => renB bs r
def resX (g : Gd) : List TSV → TX
 | [v] => .val g v
 | l => .tup l
def callHit (imp : Bool) (dst : Option Nat) (rp : Bool) (p : Place) : Bool := (imp && onObj p) || (match dst with | some d => onSlot d p || (rp && onBox (d + rbase) p) | none => false)
def Sig.imp (S : Sig) : Bool := S.ps.any PT.isPtr || S.rs.any PT.isPtr
def backT (F Γ1 : TS) (S : Sig) (g : Gd) (dst : Option Nat) (bs : List (Nat × Nat)) (d : DP S.rs) (d' : DP (ptrs S.ps)) : Option TS :=
 match dst with
 | none => bif S.rs.any PT.isPtr then none else TS.upd F Γ1 (callHit S.imp none false) (callHit S.imp none false) noBox [] (renB bs (boxesOut S.ps 0 (cellsP (ptrs S.ps) d')))
 | some t =>
  bif S.rs.any PT.isPtr then
   (match g, S.rs with
   | [], [.ptr _ _] => bif (look (renB bs (boxesOut S.ps 0 (cellsP (ptrs S.ps) d'))) (t + rbase)).isSome then none else
     TS.upd F Γ1 (callHit S.imp (some t) true) (callHit S.imp (some t) true) (fun b => Nat.beq b (t + rbase)) [(t, .val [] (.one (.box (t + rbase) 0)))] (renB bs (boxesOut S.ps 0 (cellsP (ptrs S.ps) d')) ++ [(t + rbase, cellsP S.rs d)])
   | _, _ => none)
  else bif (resX g (argsOf S.rs rbase (cellsP S.rs d))).guards t then none
  else TS.upd F Γ1 (callHit S.imp (some t) false) (callHit S.imp (some t) false) noBox [(t, resX g (argsOf S.rs rbase (cellsP S.rs d)))] (renB bs (boxesOut S.ps 0 (cellsP (ptrs S.ps) d')))
end Go.VS
namespace Go.VS
section
variable {μ μ' : Nat → Nat} {ver : Root → Nat} {ln : Place → Option Nat} {F Γ Γ' : TS} {st : St}
theorem svs_append : ∀ {l m : List TSV} {a b : List SV}, svs μ ver ln l a → svs μ ver ln m b → svs μ ver ln (l ++ m) (a ++ b)
 | [], _, [], _, _, h => h
 | x :: l, m, y :: a, b, h, k => ⟨h.1, svs_append h.2 k⟩
 | [], _, _ :: _, _, h, _ => h.elim
 | _ :: _, _, [], _, h, _ => h.elim
theorem lend_enc : ∀ (t : BT) (tt : TT) (x : t.D), (t.enc tt x).map AV.lend = t.enc tt.lend x
 | .int _, _, _ => rfl
 | .bool, _, _ => rfl
 | .str, _, _ => rfl
 | .unit, _, _ => rfl
 | .sl e, tt, l => by
  cases tt with
  | leaf => rfl
  | node τ a =>
   cases τ with
   | own =>
    simp only [BT.enc, TT.tag, TT.elt, TT.lend, List.map_cons, List.map_nil, AV.lend, lendLL_eq, List.map_map]
    congr 2
    refine List.map_congr_left fun x _ => ?_
    exact lend_enc e a x
   | _ => rfl
  | pair a b => rfl
 | .pair a b, tt, x => by
  have h1 : tt.lend.fst = tt.fst.lend ∧ tt.lend.snd = tt.snd.lend := by
   cases tt with
   | leaf => exact ⟨rfl, rfl⟩
   | node τ a => cases τ <;> exact ⟨rfl, rfl⟩
   | pair a b => exact ⟨rfl, rfl⟩
  simp only [BT.enc, List.map_append, lend_enc a, lend_enc b, h1.1, h1.2]
theorem frz_enc : ∀ (t : BT) (tt : TT) (x : t.D), (t.enc tt x).map AV.frz = t.enc tt.frz x
 | .int _, _, _ => rfl
 | .bool, _, _ => rfl
 | .str, _, _ => rfl
 | .unit, _, _ => rfl
 | .sl e, tt, l => by
  cases tt with
  | leaf => rfl
  | node τ a =>
   cases τ with
   | own =>
    simp only [BT.enc, TT.tag, TT.elt, TT.frz, List.map_cons, List.map_nil, AV.frz, frzLL_eq, List.map_map]
    congr 2
    refine List.map_congr_left fun x _ => ?_
    exact frz_enc e a x
   | _ => rfl
  | pair a b => rfl
 | .pair a b, tt, x => by
  have h1 : tt.frz.fst = tt.fst.frz ∧ tt.frz.snd = tt.snd.frz := by
   cases tt with
   | leaf => exact ⟨rfl, rfl⟩
   | node τ a => cases τ <;> exact ⟨rfl, rfl⟩
   | pair a b => exact ⟨rfl, rfl⟩
  simp only [BT.enc, List.map_append, frz_enc a, frz_enc b, h1.1, h1.2]
theorem lendLL_map (e : BT) (tt : TT) (l : List e.D) : lendLL (l.map (e.enc tt)) = l.map (e.enc tt.lend) := by
 rw [lendLL_eq, List.map_map]
 exact List.map_congr_left fun x _ => lend_enc e tt x
theorem frzLL_map (e : BT) (tt : TT) (l : List e.D) : frzLL (l.map (e.enc tt)) = l.map (e.enc tt.frz) := by
 rw [frzLL_eq, List.map_map]
 exact List.map_congr_left fun x _ => frz_enc e tt x
variable {V : Vis} {imp : Bool}
theorem argC_sim (h : Sim μ F Γ st) (hV : imp = false → V = none) {c d : TC} {a : AV} (hx : (argC F Γ imp c).ok d) (ha : c.av μ st.ver (lnT F Γ) a) :
  d.solidT = true ∧ (st.argCell V a).holds fun b => d.av μ st.ver (lnT F Γ) b := by
 cases c with
 | ref p tt0 e w =>
  simp only [argC] at hx
  split at hx
  case isFalse => exact (R.ok_fail.1 hx).elim
  rename_i hi
  rw [R.ok_bind] at hx
  obtain ⟨d0, h1, hx⟩ := hx
  have hhid : (p.mu μ).root.hid V = true := by
   cases hr : p.root with
   | slot t j => simp [Place.mu, hr, Root.mu, Root.hid]
   | obj b c =>
    have ho : onObj p = true := onObj_iff.2 ⟨b, c, hr⟩
    rw [ho, Bool.and_true] at hi
    rw [hV hi]
    simp [Place.mu, hr, Root.mu, Root.hid, Vis.sees]
  cases d0 with
  | sl τ tt e2 l =>
   cases τ with
   | own =>
    obtain ⟨q1, q2⟩ := own_sim h h1
    cases w with
    | none =>
     have ha : a = _ := ref_eq ha q2
     subst ha
     simp only [argR] at hx
     split at hx
     case isFalse => exact (R.ok_fail.1 hx).elim
     rename_i hk
     have := R.ok_pure.1 hx
     subst this
     refine ⟨rfl, ?_⟩
     simp only [St.argCell, q1, M.holds_bind, M.holds_need, hhid]
     refine ⟨trivial, trivial, hk, by simp, M.holds_pure' ?_⟩
     rw [window_all, lendLL_map, ← hk]
     exact rfl
    | some y =>
     obtain ⟨lo, n⟩ := y
     have ha : a = _ := ha
     subst ha
     simp only [argR] at hx
     split at hx
     case isFalse => exact (R.ok_fail.1 hx).elim
     rename_i hk
     rw [R.ok_bind] at hx
     obtain ⟨_, h2, hx⟩ := hx
     have h2 := R.ok_need.1 h2
     have := R.ok_pure.1 hx
     subst this
     refine ⟨rfl, ?_⟩
     simp only [St.argCell, q1, M.holds_bind, M.holds_need, hhid]
     refine ⟨trivial, trivial, hk, by simpa using h2, M.holds_pure' ?_⟩
     rw [window_part, lendLL_map, ← hk]
     exact rfl
   | _ => exact (R.ok_fail.1 hx).elim
  | _ => exact (R.ok_fail.1 hx).elim
 | sl τ tt e l =>
  have ha : a = _ := ha
  subst ha
  cases τ with
  | own =>
   have := R.ok_pure.1 hx
   subst this
   refine ⟨rfl, ?_⟩
   simp only [St.argCell]
   refine M.holds_pure' ?_
   rw [frzLL_map]
   exact rfl
  | imm => have := R.ok_pure.1 hx; subst this; exact ⟨rfl, M.holds_pure' rfl⟩
  | brw => have := R.ok_pure.1 hx; subst this; exact ⟨rfl, M.holds_pure' rfl⟩
 | adr => exact (R.ok_fail.1 hx).elim
 | iadr => exact (R.ok_fail.1 hx).elim
 | iadrd => exact (R.ok_fail.1 hx).elim
 | dead => exact (R.ok_fail.1 hx).elim
 | _ =>
  have ha : a = _ := ha
  subst ha
  have := R.ok_pure.1 hx
  subst this
  exact ⟨rfl, M.holds_pure' rfl⟩
theorem argCs_sim (h : Sim μ F Γ st) (hV : imp = false → V = none) : ∀ {l m : List TC} {as : List AV}, (argCs F Γ imp l).ok m → avs μ st.ver (lnT F Γ) l as →
  m.all TC.solidT = true ∧ (st.argCells V as).holds fun bs => avs μ st.ver (lnT F Γ) m bs
 | [], m, [], hx, _ => by
  have := R.ok_pure.1 hx
  subst this
  exact ⟨rfl, M.holds_pure' trivial⟩
 | c :: l, m, a :: as, hx, ha => by
  simp only [argCs] at hx
  rw [R.ok_bind] at hx
  obtain ⟨d, h1, hx⟩ := hx
  rw [R.ok_bind] at hx
  obtain ⟨m', h2, hx⟩ := hx
  have := R.ok_pure.1 hx
  subst this
  obtain ⟨s1, k1⟩ := argC_sim h hV h1 ha.1
  obtain ⟨s2, k2⟩ := argCs_sim h hV h2 ha.2
  refine ⟨by simp [s1, s2], ?_⟩
  simp only [St.argCells, M.holds_bind]
  refine M.holds_mono k1 fun b hb => M.holds_mono k2 fun bs hbs => M.holds_pure' ⟨hb, hbs⟩
 | [], _, _ :: _, _, h => h.elim
 | _ :: _, _, [], _, h => h.elim
theorem argT_sim (h : Sim μ F Γ st) (hV : imp = false → V = none) {g : Gd} (hg : gv F Γ g = true) {x : Opd} {v : TSV} (hx : (argT F Γ imp g x).ok v) : (st.arg V true x).holds fun s => v.sv μ st.ver (lnT F Γ) s := by
 cases x with
 | c u =>
  have := R.ok_pure.1 hx
  subst this
  exact M.holds_pure' ⟨_, rfl, constC_av u⟩
 | f nm =>
  have := R.ok_pure.1 hx
  subst this
  exact M.holds_pure' ⟨[], rfl, trivial⟩
 | t n =>
  simp only [argT] at hx
  split at hx
  case h_2 => exact (R.ok_fail.1 hx).elim
  rename_i gd v0 hs
  cases hsub : gsub gd g with
  | false => rw [hsub] at hx; exact (R.ok_fail.1 hx).elim
  | true =>
   rw [hsub] at hx
   have hx : (argV F Γ imp v0).ok v := hx
   obtain ⟨s, heq, hv⟩ := h.sl n _ hs
   simp only [St.arg, heq, M.holds_bind, M.holds_need]
   refine ⟨fun _ => gsub_spec hsub hg, ?_⟩
   cases v0 with
   | one c =>
    obtain ⟨a, rfl, ha⟩ := hv
    simp only [argV] at hx
    rw [R.ok_bind] at hx
    obtain ⟨d, h1, hx⟩ := hx
    have := R.ok_pure.1 hx
    subst this
    obtain ⟨s1, k1⟩ := argC_sim h hV h1 ha
    simp only [SV.cells, St.argCells, M.holds_bind]
    refine M.holds_mono k1 fun b hb => M.holds_pure' (M.holds_pure' (M.holds_pure' ⟨b, rfl, hb⟩))
   | agg l =>
    obtain ⟨a, rfl, ha⟩ := hv
    simp only [argV] at hx
    rw [R.ok_bind] at hx
    obtain ⟨d, h1, hx⟩ := hx
    have := R.ok_pure.1 hx
    subst this
    obtain ⟨s1, k1⟩ := argCs_sim h hV h1 ha
    refine M.holds_mono k1 fun b hb => M.holds_pure' ⟨b, rfl, hb⟩
   | clo f l =>
    obtain ⟨a, rfl, ha⟩ := hv
    have := R.ok_pure.1 hx
    subst this
    simp only [SV.cells, St.argCells, St.argCell, M.holds_bind]
    exact M.holds_pure' (M.holds_pure' (M.holds_pure' (M.holds_pure' ⟨a, rfl, ha⟩)))
theorem argsT_sim (h : Sim μ F Γ st) (hV : imp = false → V = none) {g : Gd} (hg : gv F Γ g = true) : ∀ {xs : List Opd} {vs : List TSV}, (argsT F Γ imp g xs).ok vs → (st.args V true xs).holds fun as => svs μ st.ver (lnT F Γ) vs as
 | [], vs, hx => by
  have := R.ok_pure.1 hx
  subst this
  exact M.holds_pure' trivial
 | x :: xs, vs, hx => by
  simp only [argsT] at hx
  rw [R.ok_bind] at hx
  obtain ⟨d, h1, hx⟩ := hx
  rw [R.ok_bind] at hx
  obtain ⟨m', h2, hx⟩ := hx
  have := R.ok_pure.1 hx
  subst this
  simp only [St.args, M.holds_bind]
  refine M.holds_mono (argT_sim h hV hg h1) fun s hs => M.holds_mono (argsT_sim h hV hg h2) fun as has => M.holds_pure' ⟨hs, has⟩
theorem caps_svs : ∀ {l : List TC} {k : List AV}, avs μ ver ln l k → svs μ ver ln (l.map TSV.one) (k.map SV.one)
 | [], [], _ => trivial
 | c :: l, a :: k, h => ⟨⟨a, rfl, h.1⟩, caps_svs h.2⟩
 | [], _ :: _, h => h.elim
 | _ :: _, [], h => h.elim
theorem callee_sim (h : Sim μ F Γ st) (hV : imp = false → V = none) {g : Gd} (hg : gv F Γ g = true) {op : AOp} {nm : String} {vs : List TSV} (hx : (calleeT F Γ imp g op).ok (nm, vs)) :
  (st.callee V op).holds fun (nm', as) => nm' = nm ∧ svs μ st.ver (lnT F Γ) vs as := by
 cases op with
 | call f xs =>
  simp only [calleeT] at hx
  rw [R.ok_bind] at hx
  obtain ⟨a, h1, hx⟩ := hx
  have := R.ok_pure.1 hx
  cases this
  simp only [St.callee, M.holds_bind]
  exact M.holds_mono (argsT_sim h hV hg h1) fun as has => M.holds_pure' ⟨rfl, has⟩
 | callv f xs =>
  simp only [calleeT] at hx
  rw [R.ok_bind] at hx
  obtain ⟨v, h1, hx⟩ := hx
  cases v with
  | clo nm' caps =>
   dsimp only at hx
   rw [R.ok_bind] at hx
   obtain ⟨a, h2, hx⟩ := hx
   split at hx
   case isFalse => exact (R.ok_fail.1 hx).elim
   rename_i hk
   have := R.ok_pure.1 hx
   cases this
   simp only [St.callee, St.useOne, M.holds_bind]
   refine M.holds_mono (use_sim h (b := true) (fun _ => hg) h1) ?_
   rintro _ ⟨k, rfl, ha⟩
   refine M.holds_pure' ?_
   simp only [M.holds_bind, M.holds_need]
   refine ⟨(known_solids hk ha).2, M.holds_mono (argsT_sim h hV hg h2) fun as has => M.holds_pure' ⟨rfl, ?_⟩⟩
   obtain ⟨nm1, b⟩ := nm'
   cases b with
   | false => exact svs_append has (caps_svs ha)
   | true => exact svs_append (caps_svs ha) has
  | _ => exact (R.ok_fail.1 hx).elim
 | _ => exact (R.ok_fail.1 hx).elim
theorem CoL.split : ∀ {l1 l2 m : List AV}, CoL (l1 ++ l2) m → CoL l1 (m.take l1.length) ∧ CoL l2 (m.drop l1.length)
 | [], l2, m, h => ⟨.nil, by simpa using h⟩
 | a :: l1, l2, _, .cons _ b _ m h t => by
  obtain ⟨h1, h2⟩ := CoL.split t
  exact ⟨.cons _ _ _ _ h (by simpa using h1), by simpa using h2⟩
theorem CoSs.refl : ∀ l, CoSs l l
 | [] => .nil
 | a :: l => .cons a a l l (CoS.refl a) (CoSs.refl l)
theorem match_sim (h : Sim μ F Γ st) : ∀ {ps : List PT} {i : Nat} {vs : List TSV} {cs : List TC} {bs : List (Nat × Nat)} {as : List SV}, svs μ st.ver (lnT F Γ) vs as → matchA Γ ps i vs = some (cs, bs) → (∀ j b, look bs j = some b → μ' j = μ b) →
  (∃ A, avs μ st.ver (lnT F Γ) cs A ∧ ∀ C E, CoL A E → avs μ' dv dl C E →
   (∃ as', svs μ' dv dl (argsOf ps i C) as' ∧ CoSs as as') ∧
   (∀ j l, look (boxesOf ps i C) j = some l → ∃ b m m', look bs j = some b ∧ (look Γ.bx b).isSome = true ∧ st.hp.get (μ b) = some m ∧ CoL m m' ∧ avs μ' dv dl l m' ∧ μ b < st.hp.next) ∧
   (∀ j b, look bs j = some b → ∃ l, look (boxesOf ps i C) j = some l)) ∧
  (∀ j b, look bs j = some b → i ≤ j ∧ (look Γ.bx b).isSome = true) ∧ (∀ j j' b, look bs j = some b → look bs j' = some b → j = j')
 | [], i, [], cs, bs, [], _, hm, _ => by
  simp only [matchA, Option.some.injEq, Prod.mk.injEq] at hm
  obtain ⟨rfl, rfl⟩ := hm
  exact ⟨⟨[], trivial, fun C E _ _ => ⟨⟨[], trivial, .nil⟩, (fun _ _ h => nomatch h), (fun _ _ h => nomatch h)⟩⟩, (fun _ _ h => nomatch h), (fun _ _ _ h => nomatch h)⟩
 | .val agg t tt :: ps, i, v :: vs, cs, bs, s :: as, hv, hm, hμ => by
  have fin : ∀ (l : List TC) (k : List AV) (cs' : List TC) (bs' : List (Nat × Nat)), matchA Γ ps (i + 1) vs = some (cs', bs') → cs = l ++ cs' → bs = bs' → avs μ st.ver (lnT F Γ) l k → l.length = t.size → (∀ m n, CoL k n → avs μ' dv dl m n → m.length = t.size → ∃ s', (mkT agg m).sv μ' dv dl s' ∧ CoS s s') →
    (∃ A, avs μ st.ver (lnT F Γ) cs A ∧ ∀ C E, CoL A E → avs μ' dv dl C E →
     (∃ as', svs μ' dv dl (argsOf (.val agg t tt :: ps) i C) as' ∧ CoSs (s :: as) as') ∧
     (∀ j l, look (boxesOf (.val agg t tt :: ps) i C) j = some l → ∃ b m m', look bs j = some b ∧ (look Γ.bx b).isSome = true ∧ st.hp.get (μ b) = some m ∧ CoL m m' ∧ avs μ' dv dl l m' ∧ μ b < st.hp.next) ∧
     (∀ j b, look bs j = some b → ∃ l, look (boxesOf (.val agg t tt :: ps) i C) j = some l)) ∧
    (∀ j b, look bs j = some b → i ≤ j ∧ (look Γ.bx b).isSome = true) ∧ (∀ j j' b, look bs j = some b → look bs j' = some b → j = j') := by
   rintro l k cs' bs' hm' rfl rfl hl hlen hmk
   obtain ⟨⟨A, hA, hrest⟩, hb1, hb2⟩ := match_sim h hv.2 hm' hμ
   have hkl : k.length = t.size := by rw [avs_length hl]; exact hlen
   refine ⟨⟨k ++ A, avs_append hl hA, ?_⟩, fun j b hj => ⟨by have := (hb1 j b hj).1; omega, (hb1 j b hj).2⟩, hb2⟩
   intro C E hco hav
   obtain ⟨c1, c2⟩ := CoL.split hco
   rw [hkl] at c1 c2
   obtain ⟨⟨as', r1, r2⟩, r3, r4⟩ := hrest (C.drop t.size) (E.drop t.size) c2 (avs_drop hav _)
   obtain ⟨s', q1, q2⟩ := hmk (C.take t.size) (E.take t.size) c1 (avs_take hav _) (by
    have e1 := avs_length hav
    have e2 := hco.length
    simp only [List.length_append, hkl] at e2
    simp; omega)
   exact ⟨⟨s' :: as', ⟨q1, r1⟩, .cons _ _ _ _ q2 r2⟩, r3, r4⟩
  simp only [matchA] at hm
  split at hm
  ·rename_i c cs' bs' hm'
   split at hm
   case isFalse => cases hm
   rename_i hsz
   simp only [Option.some.injEq, Prod.mk.injEq] at hm
   obtain ⟨rfl, rfl⟩ := hm
   obtain ⟨a, rfl, ha⟩ := hv.1
   refine fin [c] [a] cs' _ hm' rfl rfl ⟨ha, trivial⟩ (by simp [hsz]) ?_
   intro m n hmn hav hml
   cases hmn with
   | cons _ b _ n' hab hnil =>
    cases hnil
    match m, hav with
    | [c'], hav => exact ⟨.one b, ⟨b, rfl, hav.1⟩, .one _ _ hab⟩
    | [], hav => exact hav.elim
    | _ :: _ :: _, hav => exact hav.2.elim
  ·rename_i l cs' bs' hm'
   split at hm
   case isFalse => cases hm
   rename_i hsz
   simp only [Option.some.injEq, Prod.mk.injEq] at hm
   obtain ⟨rfl, rfl⟩ := hm
   obtain ⟨k, rfl, ha⟩ := hv.1
   refine fin l k cs' _ hm' rfl rfl ha hsz ?_
   intro m n hmn hav hml
   exact ⟨.agg n, ⟨n, rfl, hav⟩, .agg _ _ hmn⟩
  ·cases hm
 | .ptr t tt :: ps, i, v :: vs, cs, bs, s :: as, hv, hm, hμ => by
  cases v with
  | one c =>
   cases c with
   | box b c0 =>
    cases c0 with
    | zero =>
     simp only [matchA] at hm
     split at hm
     case h_2 => cases hm
     rename_i l cs' bs' hl hm'
     split at hm
     case isFalse => cases hm
     rename_i hsz
     simp only [Option.some.injEq, Prod.mk.injEq] at hm
     obtain ⟨rfl, rfl⟩ := hm
     have hμ' : ∀ j b', look bs' j = some b' → i + 1 ≤ j → μ' j = μ b' := by
      intro j b' hj hij
      refine hμ j b' ?_
      rw [look_cons, if_neg (by omega)]; exact hj
     have hkeys : ∀ {ps i vs cs} {bs : List (Nat × Nat)}, matchA Γ ps i vs = some (cs, bs) → ∀ j b, look bs j = some b → i ≤ j := by
      intro ps
      induction ps with
      | nil =>
       intro i vs cs bs hm j b hj
       cases vs with
       | nil => simp only [matchA, Option.some.injEq, Prod.mk.injEq] at hm; obtain ⟨_, rfl⟩ := hm; cases hj
       | cons => simp [matchA] at hm
      | cons p ps ih =>
       intro i vs cs bs hm j b hj
       cases vs with
       | nil => cases p <;> simp [matchA] at hm
       | cons v vs =>
        cases p with
        | val agg t tt =>
         simp only [matchA] at hm
         split at hm
         ·split at hm
          ·simp only [Option.some.injEq, Prod.mk.injEq] at hm
           obtain ⟨_, rfl⟩ := hm
           rename_i hm' _ _
           have := ih hm' j b hj; omega
          ·cases hm
         ·split at hm
          ·simp only [Option.some.injEq, Prod.mk.injEq] at hm
           obtain ⟨_, rfl⟩ := hm
           rename_i hm' _ _
           have := ih hm' j b hj; omega
          ·cases hm
         ·cases hm
        | ptr t tt =>
         cases v with
         | one c =>
          cases c with
          | box b0 c0 =>
           cases c0 with
           | zero =>
            simp only [matchA] at hm
            split at hm
            ·split at hm
             ·simp only [Option.some.injEq, Prod.mk.injEq] at hm
              obtain ⟨_, rfl⟩ := hm
              rename_i hm' _ _
              rw [look_cons] at hj
              split at hj
              ·omega
              ·have := ih hm' j b hj; omega
             ·cases hm
            ·cases hm
           | succ => simp [matchA] at hm
          | _ => simp [matchA] at hm
         | _ => simp [matchA] at hm
     have hμ2 : ∀ j b', look bs' j = some b' → μ' j = μ b' := fun j b' hj => hμ' j b' hj (hkeys hm' j b' hj)
     obtain ⟨⟨A, hA, hrest⟩, hb1, hb2⟩ := match_sim h hv.2 hm' hμ2
     obtain ⟨a, rfl, ha⟩ := hv.1
     have ha : a = _ := ha
     subst ha
     have hbox : TS.box F Γ b = some l := by simp [TS.box, hl]
     obtain ⟨k, q1, q2, q3, q4⟩ := h.bx b l hbox
     have hkl : k.length = t.size := by rw [avs_length q2]; exact hsz.2
     have hib : μ' i = μ b := hμ i b (by rw [look_cons, if_pos rfl])
     refine ⟨⟨k ++ A, avs_append q2 hA, ?_⟩, ?_, ?_⟩
     ·intro C E hco hav
      obtain ⟨c1, c2⟩ := CoL.split hco
      rw [hkl] at c1 c2
      obtain ⟨⟨as', r1, r2⟩, r3, r4⟩ := hrest (C.drop t.size) (E.drop t.size) c2 (avs_drop hav _)
      refine ⟨⟨.one (.ptr (μ b) 0) :: as', ⟨⟨_, rfl, by simp [TC.av, hib]⟩, r1⟩, .cons _ _ _ _ (CoS.refl _) r2⟩, ?_, ?_⟩
      ·intro j l' hj
       simp only [boxesOf, look_cons] at hj
       split at hj
       ·rename_i hji
        cases hj
        subst hji
        exact ⟨b, k, E.take t.size, by rw [look_cons, if_pos rfl], by simp [hl], q1, c1, avs_take hav _, q3⟩
       ·rename_i hji
        obtain ⟨b', m, m', w1, w2⟩ := r3 j l' hj
        exact ⟨b', m, m', by rw [look_cons, if_neg hji]; exact w1, w2⟩
      ·intro j b' hj
       rw [look_cons] at hj
       split at hj
       ·rename_i hji
        exact ⟨_, by simp only [boxesOf, look_cons, if_pos hji]; rfl⟩
       ·rename_i hji
        obtain ⟨l', hl'⟩ := r4 j b' hj
        exact ⟨l', by simp only [boxesOf, look_cons, if_neg hji]; exact hl'⟩
     ·intro j b' hj
      rw [look_cons] at hj
      split at hj
      ·cases hj; exact ⟨by omega, by simp [hl]⟩
      ·have := hb1 j b' hj; exact ⟨by omega, this.2⟩
     ·have hnot : ∀ j, look bs' j ≠ some b := by
       intro j hj
       have := List.any_eq_false.1 hsz.1 (j, b) (look_mem hj)
       simp at this
      intro j j' b' hj hj'
      rw [look_cons] at hj hj'
      split at hj
      ·rename_i e1
       cases hj
       split at hj'
       ·rename_i e2; omega
       ·exact (hnot _ hj').elim
      ·split at hj'
       ·cases hj'; exact (hnot _ hj).elim
       ·exact hb2 j j' b' hj hj'
    | succ => simp [matchA] at hm
   | _ => simp [matchA] at hm
  | _ => simp [matchA] at hm
 | [], _, _ :: _, _, _, _, _, hm, _ => by simp [matchA] at hm
 | .val .. :: _, _, [], _, _, _, _, hm, _ => by simp [matchA] at hm
 | .ptr .. :: _, _, [], _, _, _, _, hm, _ => by simp [matchA] at hm
 | [], _, [], _, _, _ :: _, h, _, _ => h.elim
 | _ :: _, _, _ :: _, _, _, [], h, _, _ => h.elim
end
end Go.VS
namespace Go.VS
section
variable {μ μ' : Nat → Nat} {ver : Root → Nat} {ln : Place → Option Nat} {F Γ Γ' : TS} {st : St}
theorem ownish_isOwn {c : TC} (h : ownish c = false) {a : AV} (ha : c.av μ ver ln a) : a.isOwn = false := by
 cases c with
 | sl τ tt e l =>
  have ha : a = _ := ha
  subst ha
  cases τ <;> first | rfl | cases h
 | dead => cases h
 | ref p tt e w =>
  cases w with
  | none => obtain ⟨m, rfl, _⟩ := ha; rfl
  | some x => have ha : a = _ := ha; subst ha; rfl
 | _ => (have ha : a = _ := ha); subst ha; rfl
theorem ownish_hasOwn {v : TSV} (h : v.cells.any ownish = false) {s : SV} (hv : v.sv μ ver ln s) : s.hasOwn = false := by
 have key : ∀ {l : List TC}, l.any ownish = false → ∀ {as : List AV}, avs μ ver ln l as → as.any AV.isOwn = false := by
  intro l
  induction l with
  | nil => intro _ as ha; cases as with
   | nil => rfl
   | cons => exact ha.elim
  | cons c l ih => intro h as ha; cases as with
   | nil => exact ha.elim
   | cons a as =>
    simp only [List.any_cons, Bool.or_eq_false_iff] at h
    simp only [List.any_cons, ownish_isOwn h.1 ha.1, ih h.2 ha.2, Bool.or_self]
 cases v with
 | one c =>
  obtain ⟨a, rfl, ha⟩ := hv
  simp only [TSV.cells, List.any_cons, List.any_nil, Bool.or_false] at h
  simp [SV.hasOwn, SV.cells, ownish_isOwn h ha]
 | agg l => obtain ⟨a, rfl, ha⟩ := hv; exact key h ha
 | clo f l => obtain ⟨a, rfl, ha⟩ := hv; rfl
theorem gone_sim (h : Sim μ F Γ st) {n : Nat} (hx : (setS F Γ n .gone).ok Γ') (y : TV) : Sim μ F Γ' (st.set n y) ∧ ((st.sl n).hasOwn = false → Sim μ F Γ' st) := by
 refine ⟨set_sim h hx trivial, fun ho => ?_⟩
 have := set_sim h hx (y := st.sl n) trivial
 have e : st.set n (st.sl n) = st := by
  have e1 : upd st.sl n (st.sl n) = st.sl := by funext t; simp only [upd]; split <;> simp_all
  simp only [St.set, ho, e1]
  rfl
 rwa [e] at this
theorem frzS_sim (h : Sim μ F Γ st) {x : Opd} (hx : (frzS F Γ x).ok Γ') : Sim μ F Γ' (st.frzArg x) := by
 have gone : ∀ n, (setS F Γ n .gone).ok Γ' → Sim μ F Γ' (st.frzArg (.t n)) := by
  intro n hx
  simp only [St.frzArg]
  split
  ·exact (gone_sim h hx _).1
  ·rename_i ho; exact (gone_sim h hx .dead).2 (by simpa using ho)
 cases x with
 | c v => have := R.ok_pure.1 hx; subst this; exact h
 | f nm => have := R.ok_pure.1 hx; subst this; exact h
 | t n =>
  simp only [frzS] at hx
  split at hx
  ·rename_i gd v hs
   cases ho : v.cells.any ownish with
   | true => rw [ho] at hx; exact gone n hx
   | false =>
    rw [ho] at hx
    have := R.ok_pure.1 hx
    subst this
    obtain ⟨s, heq, hv⟩ := h.sl n _ hs
    have : (st.sl n).hasOwn = false := by rw [heq]; exact ownish_hasOwn ho hv
    simp only [St.frzArg, this]
    exact h
  ·exact gone n hx
theorem frzSs_sim : ∀ {xs : List Opd} {st : St} {Γ Γ' : TS}, Sim μ F Γ st → (frzSs F Γ xs).ok Γ' → Sim μ F Γ' (st.frzArgs xs)
 | [], st, Γ, Γ', h, hx => by have := R.ok_pure.1 hx; subst this; exact h
 | x :: xs, st, Γ, Γ', h, hx => by
  simp only [frzSs] at hx
  rw [R.ok_bind] at hx
  obtain ⟨Γ1, h1, hx⟩ := hx
  exact frzSs_sim (xs := xs) (frzS_sim h h1) hx
theorem frzArgs_hp : ∀ (xs : List Opd) (st : St), (st.frzArgs xs).hp = st.hp
 | [], _ => rfl
 | x :: xs, st => by
  rw [St.frzArgs, frzArgs_hp xs]
  cases x <;> simp only [St.frzArg] <;> (try split) <;> rfl
theorem setS_box {n : Nat} {x : TX} (hx : (setS F Γ n x).ok Γ') {b : Nat} : (look Γ'.bx b).isSome = (look Γ.bx b).isSome := by
 unfold setS at hx
 cases hb : (x.guards n || x.hit (onSlot n) (onSlot n) noBox) with
 | true => rw [hb] at hx; exact (R.ok_fail.1 hx).elim
 | false =>
  rw [hb] at hx
  have hu := R.ok_ofOpt.1 hx
  have := (upd_facts hu).2.2.2 b
  cases h1 : look Γ'.bx b <;> cases h2 : look Γ.bx b <;> simp_all [look]
theorem frzSs_box : ∀ {xs : List Opd} {Γ Γ' : TS}, (frzSs F Γ xs).ok Γ' → ∀ b, (look Γ'.bx b).isSome = (look Γ.bx b).isSome
 | [], Γ, Γ', hx, b => by have := R.ok_pure.1 hx; subst this; rfl
 | x :: xs, Γ, Γ', hx, b => by
  simp only [frzSs] at hx
  rw [R.ok_bind] at hx
  obtain ⟨Γ1, h1, hx⟩ := hx
  rw [frzSs_box hx b]
  cases x with
  | c v => have := R.ok_pure.1 h1; subst this; rfl
  | f nm => have := R.ok_pure.1 h1; subst this; rfl
  | t n =>
   simp only [frzS] at h1
   split at h1
   ·rename_i gd v hs
    cases ho : v.cells.any ownish with
    | true => rw [ho] at h1; exact setS_box (show (setS F Γ n .gone).ok Γ1 from h1)
    | false => rw [ho] at h1; have := R.ok_pure.1 h1; subst this; rfl
   ·exact setS_box h1
mutual
theorem Co.free : ∀ {a b : AV}, Co a b → b.free = true → a.free = true
 | _, _, .refl _, h => h
 | _, _, .nil _ _, _ => rfl
 | _, _, .sl τ τ' k xs ys ht hl, h => by
  have h2 : freeLL xs = true := by
   refine CoLL.free hl ?_
   cases τ' <;> first | exact h | cases h
  cases τ with
  | brw =>
   rcases ht with rfl | ⟨h3, _⟩
   ·cases h
   ·cases h3
  | _ => exact h2
theorem CoL.free : ∀ {a b : List AV}, CoL a b → freeL b = true → freeL a = true
 | _, _, .nil, _ => rfl
 | _, _, .cons _ _ _ _ h t, hb => by
  simp only [freeL, Bool.and_eq_true] at hb ⊢
  exact ⟨Co.free h hb.1, CoL.free t hb.2⟩
theorem CoLL.free : ∀ {a b : List (List AV)}, CoLL a b → freeLL b = true → freeLL a = true
 | _, _, .nil, _ => rfl
 | _, _, .cons _ _ _ _ h t, hb => by
  simp only [freeLL, Bool.and_eq_true] at hb ⊢
  exact ⟨CoL.free h hb.1, CoLL.free t hb.2⟩
end
mutual
theorem Co.plain : ∀ {a b : AV}, Co a b → b.plain = true → a.plain = true
 | _, _, .refl _, h => h
 | _, _, .nil _ _, _ => rfl
 | _, _, .sl τ τ' k xs ys ht hl, h => by
  have h2 : plainLL xs = true := by
   refine CoLL.plain hl ?_
   cases τ' <;> first | exact h | cases h
  cases τ with
  | brw =>
   rcases ht with rfl | ⟨h3, _⟩
   ·cases h
   ·cases h3
  | _ => exact h2
theorem CoL.plain : ∀ {a b : List AV}, CoL a b → plainL b = true → plainL a = true
 | _, _, .nil, _ => rfl
 | _, _, .cons _ _ _ _ h t, hb => by
  simp only [plainL, Bool.and_eq_true] at hb ⊢
  exact ⟨Co.plain h hb.1, CoL.plain t hb.2⟩
theorem CoLL.plain : ∀ {a b : List (List AV)}, CoLL a b → plainLL b = true → plainLL a = true
 | _, _, .nil, _ => rfl
 | _, _, .cons _ _ _ _ h t, hb => by
  simp only [plainLL, Bool.and_eq_true] at hb ⊢
  exact ⟨CoL.plain h hb.1, CoLL.plain t hb.2⟩
end
def PT.freeP (p : PT) : Bool := TC.freeT.TT.freeT p.tt
def PT.wf : PT → Bool
 | .val agg t _ => agg || Nat.beq t.size 1
 | .ptr _ _ => true
def Sig.free (S : Sig) : Bool := (ptrs S.ps).all PT.freeP && (S.rs.all PT.freeP && (S.rs.all PT.wf && Nat.ble S.ps.length rbase))
theorem ttFree_fst {tt : TT} (h : TC.freeT.TT.freeT tt = true) : TC.freeT.TT.freeT tt.fst = true ∧ TC.freeT.TT.freeT tt.snd = true := by
 cases tt with
 | leaf => exact ⟨rfl, rfl⟩
 | node τ a => exact ⟨rfl, rfl⟩
 | pair a b => simpa [TC.freeT.TT.freeT, TT.fst, TT.snd] using h
def TC.pureT : TC → Bool
 | .int .. => true
 | .bool _ => true
 | .str _ => true
 | .sl τ tt _ _ => (match τ with | .brw => false | _ => true) && TC.freeT.TT.freeT tt
 | _ => false
theorem ex_pure : ∀ (t : BT) (tt : TT) (_ : TC.freeT.TT.freeT tt = true) (x : t.D), (t.ex tt x).all TC.pureT = true
 | .int _, _, _, _ => rfl
 | .bool, _, _, _ => rfl
 | .str, _, _, _ => rfl
 | .unit, _, _, _ => rfl
 | .sl e, tt, h, l => by
  cases tt with
  | leaf => rfl
  | node τ a => cases τ <;> simp_all [BT.ex, TC.pureT, TT.tag, TT.elt, TC.freeT.TT.freeT]
  | pair a b => rfl
 | .pair a b, tt, h, x => by
  simp only [BT.ex, List.all_append, ex_pure a _ (ttFree_fst h).1, ex_pure b _ (ttFree_fst h).2, Bool.and_self]
theorem ttP_free : ∀ {l : List PT}, l.all PT.freeP = true → TC.freeT.TT.freeT (ttP l) = true
 | [], _ => rfl
 | [p], h => by simpa [PT.freeP, ttP] using h
 | p :: q :: r, h => by
  rw [List.all_cons, Bool.and_eq_true] at h
  show (TC.freeT.TT.freeT p.tt && TC.freeT.TT.freeT (ttP (q :: r))) = true
  rw [Bool.and_eq_true]
  exact ⟨h.1, ttP_free h.2⟩
theorem cellsP_pure {l : List PT} (h : l.all PT.freeP = true) (x : DP l) : (cellsP l x).all TC.pureT = true := ex_pure _ _ (ttP_free h) x
theorem pureT_solid {c : TC} (h : c.pureT = true) : c.solidT = true := by
 cases c <;> first | rfl | cases h
theorem pureT_av {c : TC} (h : c.pureT = true) {a : AV} {μ' : Nat → Nat} {ver' : Root → Nat} {ln' : Place → Option Nat} (ha : c.av μ ver ln a) : c.av μ' ver' ln' a := by
 cases c <;> first | exact ha | cases h
theorem pureT_avs {μ' : Nat → Nat} {ver' : Root → Nat} {ln' : Place → Option Nat} : ∀ {l : List TC}, l.all TC.pureT = true → ∀ {as : List AV}, avs μ ver ln l as → avs μ' ver' ln' l as
 | [], _, [], _ => trivial
 | c :: l, h, a :: as, ha => by
  simp only [List.all_cons, Bool.and_eq_true] at h
  exact ⟨pureT_av h.1 ha.1, pureT_avs h.2 ha.2⟩
 | [], _, _ :: _, h => h.elim
 | _ :: _, _, [], h => h.elim
theorem all_sub {l m : List TC} {q : TC → Bool} (h : l.all q = true) (hm : ∀ c ∈ m, c ∈ l) : m.all q = true := by
 rw [List.all_eq_true] at h ⊢
 exact fun c hc => h c (hm c hc)
theorem boxesOf_sub : ∀ (ps : List PT) (i : Nat) (cs : List TC) (j : Nat) (l : List TC), look (boxesOf ps i cs) j = some l → ∀ c ∈ l, c ∈ cs
 | [], _, _, _, _, h => nomatch h
 | .val agg t tt :: r, i, cs, j, l, h => fun c hc => List.mem_of_mem_drop (boxesOf_sub r (i + 1) _ j l h c hc)
 | .ptr t tt :: r, i, cs, j, l, h => by
  simp only [boxesOf, look_cons] at h
  split at h
  ·cases h; exact fun c hc => List.mem_of_mem_take hc
  ·exact fun c hc => List.mem_of_mem_drop (boxesOf_sub r (i + 1) _ j l h c hc)
theorem boxesOut_sub : ∀ (ps : List PT) (i : Nat) (cs : List TC) (j : Nat) (l : List TC), look (boxesOut ps i cs) j = some l → (∀ c ∈ l, c ∈ cs) ∧ i ≤ j ∧ j < i + ps.length
 | [], _, _, _, _, h => nomatch h
 | .val agg t tt :: r, i, cs, j, l, h => by
  have := boxesOut_sub r (i + 1) _ j l h
  exact ⟨this.1, by omega, by simp; omega⟩
 | .ptr t tt :: r, i, cs, j, l, h => by
  simp only [boxesOut, look_cons] at h
  split at h
  ·cases h; exact ⟨fun c hc => List.mem_of_mem_take hc, by omega, by simp; omega⟩
  ·have := boxesOut_sub r (i + 1) _ j l h
   exact ⟨fun c hc => List.mem_of_mem_drop (this.1 c hc), by omega, by simp; omega⟩
theorem boxesOut_key : ∀ (ps : List PT) (i : Nat) (cs ds : List TC) (j : Nat) (l : List TC), look (boxesOf ps i cs) j = some l → ∃ l', look (boxesOut ps i ds) j = some l'
 | [], _, _, _, _, _, h => nomatch h
 | .val agg t tt :: r, i, cs, ds, j, l, h => boxesOut_key r (i + 1) _ ds j l h
 | .ptr t tt :: r, i, cs, ds, j, l, h => by
  simp only [boxesOf, boxesOut, look_cons] at h ⊢
  split at h
  ·rename_i hj; rw [if_pos hj]; exact ⟨_, rfl⟩
  ·rename_i hj; rw [if_neg hj]; exact boxesOut_key r (i + 1) _ _ j l h
theorem boxesOut_none {ps : List PT} (h : ps.any PT.isPtr = false) : ∀ (i : Nat) (cs : List TC), boxesOut ps i cs = [] := by
 induction ps with
 | nil => intro i cs; rfl
 | cons p ps ih =>
  simp only [List.any_cons, Bool.or_eq_false_iff] at h
  intro i cs
  cases p with
  | val => exact ih h.2 _ _
  | ptr => cases h.1
theorem boxesOf_none {ps : List PT} (h : ps.any PT.isPtr = false) : ∀ (i : Nat) (cs : List TC), boxesOf ps i cs = [] := by
 induction ps with
 | nil => intro i cs; rfl
 | cons p ps ih =>
  simp only [List.any_cons, Bool.or_eq_false_iff] at h
  intro i cs
  cases p with
  | val => exact ih h.2 _ _
  | ptr => cases h.1
theorem renB_look {bs : List (Nat × Nat)} : ∀ {B : List (Nat × List TC)} {b : Nat} {l : List TC}, look (renB bs B) b = some l → ∃ j, look bs j = some b ∧ (j, l) ∈ B
 | [], _, _, h => nomatch h
 | (i, l0) :: B, b, l, h => by
  simp only [renB] at h
  split at h
  ·rename_i b0 hb0
   rw [look_cons] at h
   split at h
   ·rename_i hbb; cases h; subst hbb; exact ⟨i, hb0, by simp⟩
   ·obtain ⟨j, h1, h2⟩ := renB_look h; exact ⟨j, h1, by simp [h2]⟩
  ·obtain ⟨j, h1, h2⟩ := renB_look h; exact ⟨j, h1, by simp [h2]⟩
theorem renB_key {bs : List (Nat × Nat)} : ∀ {B : List (Nat × List TC)} {j b : Nat} {l : List TC}, look bs j = some b → look B j = some l → ∃ l', look (renB bs B) b = some l'
 | [], _, _, _, _, h => nomatch h
 | (i, l0) :: B, j, b, l, hb, h => by
  rw [look_cons] at h
  simp only [renB]
  split at h
  ·rename_i hij
   subst hij
   rw [hb]
   exact ⟨l0, by rw [look_cons, if_pos rfl]⟩
  ·split
   ·rename_i b0 hb0
    rw [look_cons]
    split
    ·exact ⟨_, rfl⟩
    ·exact renB_key hb h
   ·exact renB_key hb h
theorem boxesOut_mem : ∀ (ps : List PT) (i : Nat) (cs : List TC) (j : Nat) (l : List TC), (j, l) ∈ boxesOut ps i cs → look (boxesOut ps i cs) j = some l ∧ i ≤ j
 | [], _, _, _, _, h => nomatch h
 | .val agg t tt :: r, i, cs, j, l, h => by
  have := boxesOut_mem r (i + 1) cs j l h
  exact ⟨this.1, by omega⟩
 | .ptr t tt :: r, i, cs, j, l, h => by
  simp only [boxesOut, List.mem_cons, Prod.mk.injEq] at h
  rcases h with ⟨rfl, rfl⟩ | h
  ·exact ⟨by simp [boxesOut, look_cons], Nat.le_refl _⟩
  ·have := boxesOut_mem r (i + 1) _ j l h
   refine ⟨?_, by omega⟩
   simp only [boxesOut, look_cons]
   rw [if_neg (by omega)]
   exact this.1
theorem argsOf_vals {rs : List PT} (h : rs.any PT.isPtr = false) : ∀ (i : Nat) (cs : List TC), cs.all TC.pureT = true → ∀ v ∈ argsOf rs i cs, v.solidV = true ∧ (∀ c ∈ v.cells, c = .dead ∨ c.pureT = true) ∧ (∀ f l, v ≠ .clo f l) := by
 induction rs with
 | nil => intro i cs _ v hv; cases hv
 | cons p rs ih =>
  simp only [List.any_cons, Bool.or_eq_false_iff] at h
  intro i cs hc v hv
  cases p with
  | ptr => cases h.1
  | val agg t tt =>
   simp only [argsOf, List.mem_cons] at hv
   rcases hv with rfl | hv
   ·have h1 : (cs.take t.size).all TC.pureT = true := all_sub hc fun c hc => List.mem_of_mem_take hc
    cases agg with
    | true =>
     refine ⟨?_, fun c hc => .inr (List.all_eq_true.1 h1 c hc), fun f l => by simp [mkT]⟩
     exact List.all_eq_true.2 fun c hc => pureT_solid (List.all_eq_true.1 h1 c hc)
    | false =>
     cases hl : cs.take t.size with
     | nil => simp [mkT, TSV.solidV, TC.solidT, TSV.cells]
     | cons c l =>
      rw [hl] at h1
      simp only [List.all_cons, Bool.and_eq_true] at h1
      exact ⟨pureT_solid h1.1, by simp [mkT, TSV.cells, h1.1], by simp [mkT]⟩
   ·exact ih h.2 _ _ (all_sub hc fun c hc => List.mem_of_mem_drop hc) v hv
theorem pure_sv {v : TSV} (h : ∀ c ∈ v.cells, c = .dead ∨ c.pureT = true) (hv : ∀ f l, v ≠ .clo f l) {s : SV} {μ' : Nat → Nat} {ver' : Root → Nat} {ln' : Place → Option Nat} (hs : v.sv μ ver ln s) : v.sv μ' ver' ln' s := by
 have one : ∀ {c : TC} {a : AV}, (c = .dead ∨ c.pureT = true) → c.av μ ver ln a → c.av μ' ver' ln' a := by
  rintro c a (rfl | h) ha
  ·exact trivial
  ·exact pureT_av h ha
 cases v with
 | one c => obtain ⟨a, rfl, ha⟩ := hs; exact ⟨a, rfl, one (h c (by simp [TSV.cells])) ha⟩
 | agg l =>
  obtain ⟨k, rfl, ha⟩ := hs
  refine ⟨k, rfl, ?_⟩
  have : ∀ {l : List TC} {k : List AV}, (∀ c ∈ l, c = .dead ∨ c.pureT = true) → avs μ ver ln l k → avs μ' ver' ln' l k := by
   intro l
   induction l with
   | nil => intro k _ ha; cases k with
    | nil => exact trivial
    | cons => exact ha.elim
   | cons c l ih => intro k h ha; cases k with
    | nil => exact ha.elim
    | cons a k => exact ⟨one (h c (by simp)) ha.1, ih (fun d hd => h d (by simp [hd])) ha.2⟩
  exact this h ha
 | clo f l => exact (hv f l rfl).elim
theorem pure_svs {μ' : Nat → Nat} {ver' : Root → Nat} {ln' : Place → Option Nat} : ∀ {vs : List TSV} {ss : List SV}, (∀ v ∈ vs, (∀ c ∈ v.cells, c = .dead ∨ c.pureT = true) ∧ (∀ f l, v ≠ .clo f l)) → svs μ ver ln vs ss → svs μ' ver' ln' vs ss
 | [], [], _, _ => trivial
 | v :: vs, s :: ss, h, hs => ⟨pure_sv (h v (by simp)).1 (h v (by simp)).2 hs.1, pure_svs (fun w hw => h w (by simp [hw])) hs.2⟩
 | [], _ :: _, _, h => h.elim
 | _ :: _, [], _, h => h.elim
theorem CoSs.length : ∀ {l m : List SV}, CoSs l m → l.length = m.length
 | _, _, .nil => rfl
 | _, _, .cons _ _ _ _ _ t => by simp [t.length]
theorem gather_co {ss ss' : List SV} (h : CoSs ss ss') : CoT (gather ss) (gather ss') := by
 cases h with
 | nil => exact .refl _
 | cons a b l m h t =>
  cases t with
  | nil => exact .val true _ _ h
  | cons a2 b2 l2 m2 h2 t2 => exact .tup _ _ (.cons _ _ _ _ h (.cons _ _ _ _ h2 t2))
theorem resX_tv {g : Gd} {gv : Gd → Bool} (hg : gv g = true) {vs : List TSV} {ss : List SV} (h : svs μ ver ln vs ss) : (resX g vs).tv μ ver ln gv (gather ss) := by
 match vs, ss, h with
 | [], [], _ => exact ⟨[], rfl, trivial⟩
 | [v], [s], h => exact ⟨s, by rw [hg]; rfl, h.1⟩
 | v :: w :: vs, s :: t :: ss, h => exact ⟨_, rfl, h⟩
 | [_], [], h => exact h.elim
 | [_], _ :: _ :: _, h => exact h.2.elim
 | _ :: _ :: _, [], h => exact h.elim
 | _ :: _ :: _, [_], h => exact h.2.elim
end
end Go.VS
namespace Go.VS
theorem CoSs.get : ∀ {l m : List SV}, CoSs l m → ∀ {i : Nat} {s : SV}, m[i]? = some s → ∃ s0, l[i]? = some s0 ∧ CoS s0 s
 | _, _, .nil, i, s, h => by simp at h
 | _, _, .cons a b l m h t, 0, s, hs => by simp at hs; subst hs; exact ⟨a, rfl, h⟩
 | _, _, .cons a b l m h t, i + 1, s, hs => by simpa using t.get (by simpa using hs)
theorem CoL.solids : ∀ {l m : List AV}, CoL l m → l.all AV.solid = true → m.all AV.solid = true
 | _, _, .nil, _ => rfl
 | _, _, .cons a b l m h t, hs => by
  simp only [List.all_cons, Bool.and_eq_true] at hs ⊢
  refine ⟨?_, t.solids hs.2⟩
  rcases h.notRef with rfl | h
  ·exact hs.1
  ·exact h
theorem ACall.co {P : Program} {nm : String} {as as' : List SV} {H H' : Heap} {K : TV → Heap → Prop} (h : ACall P nm as' H' K) (ha : CoSs as as')
  (hH : ∀ o, (H.get o = none ∧ H'.get o = none) ∨ ∃ l m, H.get o = some l ∧ H'.get o = some m ∧ CoL l m) (hn : H'.next = H.next) : ACall P nm as H K := by
 intro f fn hf hname
 obtain ⟨hb, hg, h⟩ := h f fn hf hname
 refine ⟨hb, hg, fun E w vs lam fp h1 h2 h3 h4 h5 R hs => ?_⟩
 have hco : CoSt (start as H) (start as' H') := by
  refine ⟨fun t => ?_, hH, hn, rfl, rfl⟩
  simp only [start]
  cases hm : as'[t]? with
  | none =>
   have : as[t]? = none := by
    have hl := ha.length
    rw [List.getElem?_eq_none_iff] at hm ⊢
    omega
   rw [this]; exact .refl _
  | some s =>
   obtain ⟨s0, e, hc⟩ := ha.get hm
   rw [e]; exact .val _ _ _ hc
 refine h E w vs lam fp h1 h2 (by rw [hn]; exact h3) h4 (by rw [h5, ha.length]) (hco.relN R) fun t s ht => ?_
 obtain ⟨s0, e, hc⟩ := ha.get ht
 exact hc.cells.solids (hs t s0 e)
section
variable {μ μ' : Nat → Nat} {ver : Root → Nat} {ln : Place → Option Nat} {F Γ Γ' : TS} {st : St}
theorem freeLL_map {α : Type} {f : α → List AV} (h : ∀ x, freeL (f x) = true ∧ plainL (f x) = true) : ∀ l : List α, freeLL (l.map f) = true ∧ plainLL (l.map f) = true
 | [] => ⟨rfl, rfl⟩
 | x :: l => by simp only [List.map_cons, freeLL, plainLL, (h x).1, (h x).2, (freeLL_map h l).1, (freeLL_map h l).2, Bool.and_self, and_self]
theorem freeL_append : ∀ (l m : List AV), freeL (l ++ m) = (freeL l && freeL m) ∧ plainL (l ++ m) = (plainL l && plainL m)
 | [], m => by simp [freeL, plainL]
 | a :: l, m => by simp [freeL, plainL, (freeL_append l m).1, (freeL_append l m).2, Bool.and_assoc]
theorem enc_pl : ∀ (t : BT) (tt : TT) (_ : TC.freeT.TT.freeT tt = true) (x : t.D), freeL (t.enc tt x) = true ∧ plainL (t.enc tt x) = true
 | .int _, _, _, _ => ⟨rfl, rfl⟩
 | .bool, _, _, _ => ⟨rfl, rfl⟩
 | .str, _, _, _ => ⟨rfl, rfl⟩
 | .unit, _, _, _ => ⟨rfl, rfl⟩
 | .sl e, tt, h, l => by
  have key : ∀ tt', TC.freeT.TT.freeT tt' = true → freeLL (l.map (e.enc tt')) = true ∧ plainLL (l.map (e.enc tt')) = true := fun tt' h' => freeLL_map (fun x => enc_pl e tt' h' x) l
  cases tt with
  | leaf => simp only [BT.enc, TT.tag, TT.elt, freeL, plainL, AV.free, AV.plain, (key .leaf rfl).1, (key .leaf rfl).2]; exact ⟨rfl, rfl⟩
  | node τ a =>
   cases τ with
   | brw => cases h
   | own => have k := key a h; simp only [BT.enc, TT.tag, TT.elt, freeL, plainL, AV.free, AV.plain, k.1, k.2]; exact ⟨rfl, rfl⟩
   | imm => have k := key a h; simp only [BT.enc, TT.tag, TT.elt, freeL, plainL, AV.free, AV.plain, k.1, k.2]; exact ⟨rfl, rfl⟩
  | pair a b => simp only [BT.enc, TT.tag, TT.elt, freeL, plainL, AV.free, AV.plain, (key .leaf rfl).1, (key .leaf rfl).2]; exact ⟨rfl, rfl⟩
 | .pair a b, tt, h, x => by
  have h1 := enc_pl a tt.fst (ttFree_fst h).1 x.1
  have h2 := enc_pl b tt.snd (ttFree_fst h).2 x.2
  simp only [BT.enc, (freeL_append _ _).1, (freeL_append _ _).2, h1.1, h1.2, h2.1, h2.2, Bool.and_self, and_self]
theorem pureT_freeAV {c : TC} (h : c.pureT = true) {a : AV} (ha : c.av μ ver ln a) : a.free = true ∧ a.plain = true := by
 cases c with
 | int => have ha : a = _ := ha; subst ha; exact ⟨rfl, rfl⟩
 | bool => have ha : a = _ := ha; subst ha; exact ⟨rfl, rfl⟩
 | str => have ha : a = _ := ha; subst ha; exact ⟨rfl, rfl⟩
 | sl τ tt e l =>
  have ha : a = _ := ha
  subst ha
  simp only [TC.pureT, Bool.and_eq_true] at h
  have k := freeLL_map (fun x => enc_pl e tt h.2 x) l
  cases τ with
  | brw => cases h.1
  | own => exact k
  | imm => exact k
 | _ => cases h
theorem pureT_freeL : ∀ {l : List TC}, l.all TC.pureT = true → ∀ {as : List AV}, avs μ ver ln l as → freeL as = true ∧ plainL as = true
 | [], _, [], _ => ⟨rfl, rfl⟩
 | c :: l, h, a :: as, ha => by
  simp only [List.all_cons, Bool.and_eq_true] at h
  have h1 := pureT_freeAV h.1 ha.1
  have h2 := pureT_freeL h.2 ha.2
  simp only [freeL, plainL, h1.1, h1.2, h2.1, h2.2, Bool.and_self, and_self]
 | [], _, _ :: _, h => h.elim
 | _ :: _, _, [], h => h.elim
theorem resX_tv' {g : Gd} {gv : Gd → Bool} {vs : List TSV} (hg : (∃ v, vs = [v]) → gv g = true) {ss : List SV} (h : svs μ ver ln vs ss) : (resX g vs).tv μ ver ln gv (gather ss) := by
 match vs, ss, h with
 | [], [], _ => exact ⟨[], rfl, trivial⟩
 | [v], [s], h => exact ⟨s, by rw [hg ⟨v, rfl⟩]; rfl, h.1⟩
 | v :: w :: vs, s :: t :: ss, h => exact ⟨_, rfl, h⟩
 | [_], [], h => exact h.elim
 | [_], _ :: _ :: _, h => exact h.2.elim
 | _ :: _ :: _, [], h => exact h.elim
 | _ :: _ :: _, [_], h => exact h.2.elim
theorem svs_plain : ∀ {vs : List TSV} {ss : List SV}, svs μ ver ln vs ss → (∀ v ∈ vs, (∀ c ∈ v.cells, c = .dead ∨ c.pureT = true) ∧ (∀ f l, v ≠ .clo f l) ∧ ∀ c ∈ v.cells, c ≠ .dead) → ∀ s ∈ ss, plainL s.cells = true
 | [], [], _, _, s, hs => nomatch hs
 | v :: vs, s0 :: ss, h, hv, s, hs => by
  rcases List.mem_cons.1 hs with rfl | hs
  ·obtain ⟨h1, h2, h3⟩ := hv v (by simp)
   have hav := cells_sv h2 h.1
   exact (pureT_freeL (List.all_eq_true.2 fun c hc => (h1 c hc).resolve_left (h3 c hc)) hav).2
  ·exact svs_plain h.2 (fun v hv' => hv v (by simp [hv'])) s hs
 | [], _ :: _, h, _, _, _ => h.elim
 | _ :: _, [], h, _, _, _ => h.elim
theorem tyP_size : ∀ (p : PT) (r : List PT), (tyP (p :: r)).size = p.bt.size + (tyP r).size
 | p, [] => rfl
 | p, q :: r => rfl
theorem argsOf_live {rs : List PT} (h : rs.any PT.isPtr = false) (hw : rs.all PT.wf = true) : ∀ (i : Nat) (cs : List TC), cs.all TC.pureT = true → cs.length = (tyP rs).size → ∀ v ∈ argsOf rs i cs, ∀ c ∈ v.cells, c ≠ .dead := by
 induction rs with
 | nil => intro i cs _ _ v hv; cases hv
 | cons p rs ih =>
  simp only [List.any_cons, Bool.or_eq_false_iff] at h
  simp only [List.all_cons, Bool.and_eq_true] at hw
  intro i cs hc hl v hv
  cases p with
  | ptr => cases h.1
  | val agg t tt =>
   rw [tyP_size] at hl
   have hl : cs.length = t.size + (tyP rs).size := hl
   simp only [argsOf, List.mem_cons] at hv
   rcases hv with rfl | hv
   ·have h1 : (cs.take t.size).all TC.pureT = true := all_sub hc fun c hc => List.mem_of_mem_take hc
    have nd : ∀ c : TC, c.pureT = true → c ≠ .dead := by rintro c hc rfl; cases hc
    cases agg with
    | true => intro c hc; exact nd c (List.all_eq_true.1 h1 c hc)
    | false =>
     have hw1 : t.size = 1 := Nat.eq_of_beq_eq_true (by simpa [PT.wf] using hw.1)
     cases hlc : cs.take t.size with
     | nil =>
      have := congrArg List.length hlc
      rw [List.length_take] at this
      simp only [List.length_nil] at this
      omega
     | cons c l =>
      rw [hlc] at h1
      simp only [List.all_cons, Bool.and_eq_true] at h1
      intro c' hc'
      simp [mkT, TSV.cells] at hc'
      subst hc'
      exact nd _ h1.1
   ·exact ih h.2 hw.2 _ _ (all_sub hc fun c hc => List.mem_of_mem_drop hc) (by simp; omega) v hv
theorem boxesOf_ge : ∀ (ps : List PT) (i : Nat) (cs : List TC) (j : Nat) (l : List TC), look (boxesOf ps i cs) j = some l → i ≤ j
 | [], _, _, _, _, h => nomatch h
 | .val agg t tt :: r, i, cs, j, l, h => by
  have := boxesOf_ge r (i + 1) _ j l h
  omega
 | .ptr t tt :: r, i, cs, j, l, h => by
  simp only [boxesOf, look_cons] at h
  split at h
  ·omega
  ·have := boxesOf_ge r (i + 1) _ j l h; omega
theorem boxesOut_key' : ∀ (ps : List PT) (i : Nat) (cs ds : List TC) (j : Nat) (l : List TC), look (boxesOut ps i cs) j = some l → ∃ l', look (boxesOf ps i ds) j = some l'
 | [], _, _, _, _, _, h => nomatch h
 | .val agg t tt :: r, i, cs, ds, j, l, h => boxesOut_key' r (i + 1) _ _ j l h
 | .ptr t tt :: r, i, cs, ds, j, l, h => by
  simp only [boxesOf, boxesOut, look_cons] at h ⊢
  split at h
  ·rename_i hj; rw [if_pos hj]; exact ⟨_, rfl⟩
  ·rename_i hj; rw [if_neg hj]; exact boxesOut_key' r (i + 1) _ _ j l h
theorem CoSs.plains : ∀ {l m : List SV}, CoSs l m → (∀ s ∈ m, plainL s.cells = true) → ∀ s ∈ l, plainL s.cells = true
 | _, _, .nil, _, s, hs => nomatch hs
 | _, _, .cons a b l m h t, hm, s, hs => by
  rcases List.mem_cons.1 hs with rfl | hs
  ·exact CoL.plain h.cells (hm b (by simp))
  ·exact t.plains (fun s hs => hm s (by simp [hs])) s hs
theorem gather_plain : ∀ {ss : List SV}, (∀ s ∈ ss, plainL s.cells = true) → (gather ss).plain = true
 | [], _ => rfl
 | [s], h => h s (by simp)
 | s :: t :: ss, h => List.all_eq_true.2 h
theorem callHit_no {imp : Bool} {dst : Option Nat} {rp : Bool} {p : Place} (h : callHit imp dst rp p = false) : (imp = true → onObj p = false) ∧ ∀ d, dst = some d → onSlot d p = false ∧ (rp = true → onBox (d + rbase) p = false) := by
 simp only [callHit, Bool.or_eq_false_iff] at h
 refine ⟨fun hi => by simpa [hi] using h.1, ?_⟩
 rintro d rfl
 have := h.2
 simp only [Bool.or_eq_false_iff] at this
 exact ⟨this.1, fun hr => by simpa [hr] using this.2⟩
open Classical in
theorem back_sim (h : Sim μ F Γ st) {S : Sig} (hS : S.free = true) {g : Gd} (hg : gv F Γ g = true) {bs : List (Nat × Nat)} {C : List TC}
  (hb1 : ∀ j b, look bs j = some b → (look Γ.bx b).isSome = true) (hb2 : ∀ j j' b, look bs j = some b → look bs j' = some b → j = j')
  (hb3 : ∀ j b, look bs j = some b → ∃ l, look (boxesOf S.ps 0 C) j = some l) (hb4 : ∀ j l, look (boxesOf S.ps 0 C) j = some l → ∃ b, look bs j = some b)
  (hμ : ∀ j b, look bs j = some b → μ' j = μ b) {V : Vis} (hVi : V.isSome = S.imp) (hV : S.imp = true → ∀ o, V.sees o = true ↔ ∃ j b, look bs j = some b ∧ μ b = o)
  {H0 : Heap} (hH0 : H0.next = st.hp.next) {d : DP S.rs} {d' : DP (ptrs S.ps)} {r : TV} {H' : Heap} (hp : FnPost S μ' H0 d d' r H') {dst : Option Nat} (hx : backT F Γ S g dst bs d d' = some Γ') :
  ∃ H'' : Heap, H''.Sub H' ∧ (V.isSome = true → H''.Free) ∧ (V.isSome = false → r.plain = true) ∧ WOk μ st.hp.next F Γ' (st.after V H'' dst r) ∧ st.hp.next ≤ (st.after V H'' dst r).hp.next := by
 obtain ⟨μ'', ss, ss', hm1, hr, hco, hsv, hbx, hfr, hnx⟩ := hp.res
 subst hr
 simp only [Sig.free, Bool.and_eq_true] at hS
 obtain ⟨hSp, hSr, hSw, hSl⟩ := hS
 have hSl : S.ps.length ≤ rbase := Nat.le_of_ble_eq_true hSl
 have pout := cellsP_pure hSp d'
 have pres := cellsP_pure hSr d
 generalize hrp : S.rs.any PT.isPtr = rp at hx
 let BB := boxesOut S.ps 0 (cellsP (ptrs S.ps) d') ++ boxesOf S.rs rbase (cellsP S.rs d)
 let Nm : Nat → Prop := fun b => b < rbase ∨ (b = rbase ∧ rp = true)
 have low : ∀ b l, b < rbase → look BB b = some l → look (boxesOut S.ps 0 (cellsP (ptrs S.ps) d')) b = some l := by
  intro b l hb hl
  simp only [BB, look_append] at hl
  split at hl
  ·rename_i heq; cases hl; exact heq
  ·have := boxesOf_ge _ _ _ _ _ hl; omega
 have high : ∀ l, look BB rbase = some l → look (boxesOf S.rs rbase (cellsP S.rs d)) rbase = some l := by
  intro l hl
  simp only [BB, look_append] at hl
  split at hl
  ·rename_i heq; have := (boxesOut_sub _ _ _ _ _ heq).2.2; omega
  ·exact hl
 have lowB : ∀ b l, b < rbase → look BB b = some l → ∃ b0, look bs b = some b0 ∧ μ'' b = μ b0 := by
  intro b l hb hl
  obtain ⟨l', hl'⟩ := boxesOut_key' _ _ _ C _ _ (low b l hb hl)
  obtain ⟨b0, hb0⟩ := hb4 b l' hl'
  exact ⟨b0, hb0, by rw [hm1 b hb, hμ b b0 hb0]⟩
 have mulow : ∀ b0, (look Γ.bx b0).isSome = true → μ b0 < st.hp.next := by
  intro b0 hb0
  obtain ⟨l, hl⟩ := Option.isSome_iff_exists.1 hb0
  obtain ⟨_, _, _, q, _⟩ := h.bx b0 l (by simp [TS.box, hl])
  exact q
 have muinj : ∀ b0 b1, (look Γ.bx b0).isSome = true → (look Γ.bx b1).isSome = true → μ b0 = μ b1 → b0 = b1 := by
  intro b0 b1 h0 h1 he
  obtain ⟨l0, hl0⟩ := Option.isSome_iff_exists.1 h0
  obtain ⟨l1, hl1⟩ := Option.isSome_iff_exists.1 h1
  exact h.inj b0 b1 l0 l1 (by simp [TS.box, hl0]) (by simp [TS.box, hl1]) he
 have uniq : ∀ b l b2 l2, Nm b → look BB b = some l → Nm b2 → look BB b2 = some l2 → μ'' b = μ'' b2 → b = b2 := by
  intro b l b2 l2 hn hl hn2 hl2 he
  rcases hn with hn | ⟨rfl, hn⟩
  ·obtain ⟨c, hc, e1⟩ := lowB b l hn hl
   rcases hn2 with hn2 | ⟨rfl, hn2⟩
   ·obtain ⟨c2, hc2, e2⟩ := lowB b2 l2 hn2 hl2
    have := muinj c c2 (hb1 _ _ hc) (hb1 _ _ hc2) (by rw [← e1, ← e2, he])
    subst this
    exact hb2 b b2 c hc hc2
   ·have := hfr rbase (Nat.le_refl _)
    have := mulow c (hb1 _ _ hc)
    omega
  ·rcases hn2 with hn2 | ⟨rfl, hn2⟩
   ·obtain ⟨c2, hc2, e2⟩ := lowB b2 l2 hn2 hl2
    have := hfr rbase (Nat.le_refl _)
    have := mulow c2 (hb1 _ _ hc2)
    omega
   ·rfl
 have pureB : ∀ b l, look BB b = some l → l.all TC.pureT = true := by
  intro b l hl
  simp only [BB, look_append] at hl
  split at hl
  ·rename_i heq; cases hl; exact all_sub pout (boxesOut_sub _ _ _ _ _ heq).1
  ·exact all_sub pres (boxesOf_sub _ _ _ _ _ hl)
 let PP : Nat → List AV → Prop := fun o m' => ∃ b l, Nm b ∧ look BB b = some l ∧ μ'' b = o ∧ ∃ m, H'.get o = some m ∧ CoL m m' ∧ avs μ'' dv dl l m'
 have PPof : ∀ b l, Nm b → look BB b = some l → ∃ m', PP (μ'' b) m' := by
  intro b l hn hl
  obtain ⟨m, m', q1, q2, q3, q4⟩ := hbx b l hl
  exact ⟨m', b, l, hn, hl, rfl, m, q1, q2, q3⟩
 let H'' : Heap := ⟨fun o => if ∃ m', PP o m' then H'.get o else none, H'.next⟩
 let hp2 : Heap := if V.isSome then ⟨fun o => if V.sees o || decide (st.hp.next ≤ o) then (if h : ∃ m', PP o m' then some h.choose else none) else st.hp.get o, H'.next⟩ else st.hp
 let st2 : St := St.setD ⟨st.sl, hp2, st.vs, if V.isSome then st.hv + 1 else st.hv⟩ dst (gather ss')
 have hst2hp : st2.hp = hp2 := by cases dst <;> rfl
 have hnext : st.hp.next ≤ H'.next := by rw [← hH0]; exact hnx
 have hco2 : CoSt (st.after V H'' dst (gather ss)) st2 := by
  have hheap : ∀ o, ((if V.isSome then st.hp.merge V H'' else st.hp).get o = none ∧ hp2.get o = none) ∨ ∃ l m, (if V.isSome then st.hp.merge V H'' else st.hp).get o = some l ∧ hp2.get o = some m ∧ CoL l m := by
   intro o
   have refl : (st.hp.get o = none ∧ st.hp.get o = none) ∨ ∃ l m, st.hp.get o = some l ∧ st.hp.get o = some m ∧ CoL l m := by
    cases st.hp.get o with
    | none => exact .inl ⟨rfl, rfl⟩
    | some l => exact .inr ⟨l, l, rfl, rfl, CoL.refl l⟩
   simp only [hp2]
   cases hi : V.isSome with
   | false => exact refl
   | true =>
    simp only [if_true, Heap.merge]
    cases hs : (V.sees o || decide (st.hp.next ≤ o)) with
    | false => exact refl
    | true =>
     simp only [if_true, H'']
     by_cases hpp : ∃ m', PP o m'
     ·rw [if_pos hpp, dif_pos hpp]
      obtain ⟨b, l, _, _, _, m, q1, q2, _⟩ := hpp.choose_spec
      exact .inr ⟨m, _, q1, rfl, q2⟩
     ·rw [if_neg hpp, dif_neg hpp]; exact .inl ⟨rfl, rfl⟩
  cases dst with
  | none => exact ⟨fun _ => .refl _, hheap, by simp only [st2, hp2, St.after, St.setD]; split <;> rfl, rfl, rfl⟩
  | some t =>
   refine ⟨fun t' => ?_, hheap, by simp only [st2, hp2, St.after, St.setD, St.set]; split <;> rfl, rfl, rfl⟩
   simp only [st2, St.after, St.setD, St.set, upd]
   split
   ·exact gather_co hco
   ·exact .refl _
 have named : V.isSome = true → ∀ b l, Nm b → look BB b = some l → ∃ k, st2.hp.get (μ'' b) = some k ∧ l.all TC.pureT = true ∧ avs μ'' dv dl l k ∧ μ'' b < st2.hp.next := by
  intro hi b l hn hl
  have hpp := PPof b l hn hl
  have hsee : (V.sees (μ'' b) || decide (st.hp.next ≤ μ'' b)) = true := by
   rcases hn with hn | ⟨rfl, hn⟩
   ·obtain ⟨c, hc, e⟩ := lowB b l hn hl
    rw [(hV (by rw [← hVi]; exact hi) _).2 ⟨b, c, hc, e.symm⟩]; rfl
   ·have := hfr rbase (Nat.le_refl _)
    rw [hH0] at this
    simp [this]
  obtain ⟨_, _, _, _, _, q4⟩ := hbx b l hl
  refine ⟨hpp.choose, ?_, pureB b l hl, ?_, ?_⟩
  ·rw [hst2hp]
   simp only [hp2, hi, if_true, hsee, dif_pos hpp]
  ·obtain ⟨b2, l2, n2, k2, e2, m, _, _, q3⟩ := hpp.choose_spec
   have := uniq b l b2 l2 hn hl n2 k2 e2.symm
   subst this
   have : some l = some l2 := by rw [← hl, ← k2]
   cases this
   exact q3
  ·rw [hst2hp]; simp only [hp2, hi, if_true]; exact q4
 have unseen : ∀ b l, TS.box F Γ b = some l → (∀ j, look bs j ≠ some b) → st2.hp.get (μ b) = st.hp.get (μ b) := by
  intro b l hb hne
  rw [hst2hp]
  simp only [hp2]
  cases hi : V.isSome with
  | false => rfl
  | true =>
   have hlt : μ b < st.hp.next := by obtain ⟨_, _, _, q, _⟩ := h.bx b l hb; exact q
   have : (V.sees (μ b) || decide (st.hp.next ≤ μ b)) = false := by
    rw [Bool.or_eq_false_iff]
    refine ⟨?_, by simp; omega⟩
    cases hs : V.sees (μ b) with
    | false => rfl
    | true =>
     obtain ⟨j, b0, hj, e⟩ := (hV (by rw [← hVi]; exact hi) _).1 hs
     obtain ⟨l0, hl0⟩ := Option.isSome_iff_exists.1 (hb1 j b0 hj)
     have := h.inj b0 b l0 l (by simp [TS.box, hl0]) hb e
     subst this
     exact (hne j hj).elim
   show (if (V.sees (μ b) || decide (st.hp.next ≤ μ b)) = true then _ else _) = _
   rw [this]
   rfl
 have hnx2 : st.hp.next ≤ st2.hp.next := by rw [hst2hp]; simp only [hp2]; split <;> simp [hnext]
 have hver : ∀ p, (S.imp = true → onObj p = false) → (∀ t, dst = some t → onSlot t p = false) → st2.ver (p.mu μ).root = st.ver (p.mu μ).root := by
  intro p h1 h2
  cases hr : p.root with
  | slot t j =>
   simp only [Place.mu, hr, Root.mu, St.ver]
   cases dst with
   | none => rfl
   | some t0 =>
    have hne : t ≠ t0 := by rintro rfl; have := h2 t rfl; rw [onSlot_iff.2 ⟨j, hr⟩] at this; cases this
    simp only [st2, St.setD, St.set]
    split
    ·simp [upd, hne]
    ·rfl
  | obj b c =>
   simp only [Place.mu, hr, Root.mu, St.ver]
   have : S.imp = false := by
    cases hi : S.imp with
    | false => rfl
    | true => have := h1 hi; rw [onObj_iff.2 ⟨b, c, hr⟩] at this; cases this
   cases dst <;> simp [st2, St.setD, St.set, hVi, this]
 have hsl2 : ∀ t, dst ≠ some t → st2.sl t = st.sl t := by
  intro t ht
  cases dst with
  | none => rfl
  | some t0 => simp only [st2, St.setD, St.set, upd]; rw [if_neg (fun e => ht (by rw [e]))]
 have hsld : ∀ t, dst = some t → st2.sl t = gather ss' := by
  rintro t rfl
  simp [st2, St.setD, St.set, upd]
 refine ⟨H'', ⟨rfl, fun o => ?_⟩, ?_, ?_, ?_⟩
 ·simp only [H'']
  split
  ·exact .inr rfl
  ·exact .inl rfl
 ·intro _ o l hl
  simp only [H''] at hl
  split at hl
  ·rename_i hpp
   obtain ⟨m', b, l2, _, k2, _, m, q1, q2, q3⟩ := hpp
   rw [q1] at hl
   cases hl
   exact CoL.free q2 (pureT_freeL (pureB b l2 k2) q3).1
  ·cases hl
 ·intro hi
  have hi : S.imp = false := by rw [← hVi]; exact hi
  simp only [Sig.imp, Bool.or_eq_false_iff] at hi
  refine gather_plain (hco.plains (svs_plain hsv fun v hv => ?_))
  have := argsOf_vals hi.2 rbase _ pres v hv
  exact ⟨this.2.1, this.2.2, argsOf_live hi.2 hSw rbase _ pres (ex_length _ _ _) v hv⟩
 ·have out1 : ∀ b l, look (renB bs (boxesOut S.ps 0 (cellsP (ptrs S.ps) d'))) b = some l → ∃ j, look bs j = some b ∧ look BB j = some l ∧ j < rbase ∧ μ'' j = μ b ∧ S.imp = true := by
   intro b l hl
   obtain ⟨j, h1, h2⟩ := renB_look hl
   obtain ⟨h3, _⟩ := boxesOut_mem _ _ _ _ _ h2
   have hj : j < rbase := by have := (boxesOut_sub _ _ _ _ _ h3).2.2; omega
   refine ⟨j, h1, by simp only [BB, look_append, h3], hj, by rw [hm1 j hj, hμ j b h1], ?_⟩
   cases hi : S.imp with
   | true => rfl
   | false =>
    simp only [Sig.imp, Bool.or_eq_false_iff] at hi
    rw [boxesOut_none hi.1] at h3; cases h3
  have out2 : ∀ j b, look bs j = some b → (look (renB bs (boxesOut S.ps 0 (cellsP (ptrs S.ps) d'))) b).isSome = true := by
   intro j b hj
   obtain ⟨l, hl⟩ := hb3 j b hj
   obtain ⟨l', hl'⟩ := boxesOut_key _ _ _ (cellsP (ptrs S.ps) d') _ _ hl
   obtain ⟨l2, h2⟩ := renB_key hj hl'
   rw [h2]; rfl
  have objs : ∀ p, callHit S.imp dst rp p = false → ∀ b c, p.root = .obj b c → look (renB bs (boxesOut S.ps 0 (cellsP (ptrs S.ps) d'))) b = none := by
   intro p hp b c hr
   cases ho : look (renB bs (boxesOut S.ps 0 (cellsP (ptrs S.ps) d'))) b with
   | none => rfl
   | some l =>
    obtain ⟨_, _, _, _, _, hi⟩ := out1 b l ho
    have := (callHit_no hp).1 hi
    rw [onObj_iff.2 ⟨b, c, hr⟩] at this
    cases this
  have hnx3 : st.hp.next ≤ (st.after V H'' dst (gather ss)).hp.next := by rw [← hco2.nx]; exact hnx2
  have wok : ∀ μ2, Sim μ2 F Γ' st2 → MuLe st.hp.next μ μ2 → WOk μ st.hp.next F Γ' (st.after V H'' dst (gather ss)) ∧ st.hp.next ≤ (st.after V H'' dst (gather ss)).hp.next := fun μ2 hs hm => ⟨⟨μ2, st2, hco2, hs, hm⟩, hnx3⟩
  have outbx : ∀ b, (look (renB bs (boxesOut S.ps 0 (cellsP (ptrs S.ps) d'))) b).isSome = true → ∃ l, TS.box F Γ b = some l := by
   intro b hb
   obtain ⟨l, hl⟩ := Option.isSome_iff_exists.1 hb
   obtain ⟨j, h1, _⟩ := out1 b l hl
   obtain ⟨l0, hl0⟩ := Option.isSome_iff_exists.1 (hb1 j b h1)
   exact ⟨l0, by simp [TS.box, hl0]⟩
  have inj2 : ∀ b b', (look (renB bs (boxesOut S.ps 0 (cellsP (ptrs S.ps) d'))) b).isSome = true → ((look (renB bs (boxesOut S.ps 0 (cellsP (ptrs S.ps) d'))) b').isSome = true ∨ ∃ l, TS.box F Γ b' = some l) → μ b = μ b' → b = b' := by
   intro b b' hb hb' he
   obtain ⟨l, hl⟩ := outbx b hb
   rcases hb' with hb' | ⟨l', hl'⟩
   ·obtain ⟨l', hl'⟩ := outbx b' hb'
    exact h.inj b b' l l' hl hl' he
   ·exact h.inj b b' l l' hl hl' he
  have newb : ∀ b l, look (renB bs (boxesOut S.ps 0 (cellsP (ptrs S.ps) d'))) b = some l → ∃ k, st2.hp.get (μ b) = some k ∧ avs μ'' dv dl l k ∧ μ b < st2.hp.next ∧ l.all TC.pureT = true := by
   intro b l hl
   obtain ⟨j, h1, h2, h3, h4, h5⟩ := out1 b l hl
   obtain ⟨k, q1, q2, q3, q4⟩ := named (by rw [hVi]; exact h5) j l (.inl h3) h2
   rw [h4] at q1 q4
   exact ⟨k, q1, q3, q4, q2⟩
  have solidL : ∀ {l : List TC}, l.all TC.pureT = true → l.all TC.solidT = true := fun hl => List.all_eq_true.2 fun c hc => pureT_solid (List.all_eq_true.1 hl c hc)
  have outne : ∀ b, look (renB bs (boxesOut S.ps 0 (cellsP (ptrs S.ps) d'))) b = none → ∀ j, look bs j ≠ some b := by
   intro b hb j hj
   have := out2 j b hj
   rw [hb] at this; cases this
  cases hdst : dst with
  | none =>
   rw [← hdst]
   cases rp with
   | true => simp [backT, hdst, hrp] at hx
   | false =>
    simp only [backT, hdst, hrp, cond_false] at hx
    rw [← hdst] at hx
    have T : Tr (callHit S.imp dst false) (callHit S.imp dst false) noBox μ μ st.ver st2.ver (lnT F Γ) (lnT F Γ') := by
     refine ⟨fun _ _ => rfl, fun p hp => ⟨rfl, hver p (callHit_no hp).1 (fun t ht => ((callHit_no hp).2 t ht).1), fun n hn => upd_ln hx h.ss (fun _ _ _ => rfl) (fun b c hr => objs p hp b c hr) hn⟩, fun p hp => ⟨rfl, hver p (callHit_no hp).1 (fun t ht => ((callHit_no hp).2 t ht).1)⟩⟩
    refine wok μ (h.upd hx T (fun t _ => hsl2 t (by rw [hdst]; simp)) (fun _ _ h => nomatch h) (fun b l hn hl => unseen b l hl (outne b hn)) ?_ (fun _ h => nomatch h) ?_ hnx2) (MuLe.refl _ _)
    ·intro b l hl
     obtain ⟨k, q1, q2, q3, q4⟩ := newb b l hl
     exact ⟨k, q1, pureT_avs q4 q2, q3, solidL q4⟩
    ·intro b b' l l' hl hl' he
     rw [upd_box hx b'] at hl'
     refine inj2 b b' (by rw [hl]; rfl) ?_ he
     cases ho : look (renB bs (boxesOut S.ps 0 (cellsP (ptrs S.ps) d'))) b' with
     | some y => exact .inl rfl
     | none =>
      rw [ho] at hl'
      simp only [Option.map_eq_some_iff] at hl'
      obtain ⟨l0, hl0, _⟩ := hl'
      exact .inr ⟨l0, hl0⟩
  | some t =>
   rw [← hdst]
   cases rp with
   | false =>
    simp only [backT, hdst, hrp, cond_false] at hx
    rw [← hdst] at hx
    cases hgd : (resX g (argsOf S.rs rbase (cellsP S.rs d))).guards t with
    | true => rw [hgd] at hx; cases hx
    | false =>
     rw [hgd] at hx
     have hx : TS.upd F Γ (callHit S.imp dst false) (callHit S.imp dst false) noBox [(t, resX g (argsOf S.rs rbase (cellsP S.rs d)))] (renB bs (boxesOut S.ps 0 (cellsP (ptrs S.ps) d'))) = some Γ' := hx
     have nos : ∀ p, callHit S.imp dst false p = false → ∀ t' j, p.root = .slot t' j → look [(t, resX g (argsOf S.rs rbase (cellsP S.rs d)))] t' = none := by
      intro p hp t' j hr
      rw [look_one, if_neg]
      rintro rfl
      have := ((callHit_no hp).2 t hdst).1
      rw [onSlot_iff.2 ⟨j, hr⟩] at this; cases this
     have T : Tr (callHit S.imp dst false) (callHit S.imp dst false) noBox μ μ st.ver st2.ver (lnT F Γ) (lnT F Γ') := by
      refine ⟨fun _ _ => rfl, fun p hp => ⟨rfl, hver p (callHit_no hp).1 (fun t ht => ((callHit_no hp).2 t ht).1), fun n hn => upd_ln hx h.ss (nos p hp) (fun b c hr => objs p hp b c hr) hn⟩, fun p hp => ⟨rfl, hver p (callHit_no hp).1 (fun t ht => ((callHit_no hp).2 t ht).1)⟩⟩
     refine wok μ (h.upd hx T ?_ ?_ (fun b l hn hl => unseen b l hl (outne b hn)) ?_ (fun _ h => nomatch h) ?_ hnx2) (MuLe.refl _ _)
     ·intro t' ht'
      refine hsl2 t' ?_
      rintro he
      rw [hdst] at he
      cases he
      rw [look_one, if_pos rfl] at ht'; cases ht'
     ·intro t' x' hx'
      rw [look_one] at hx'
      split at hx'
      case isFalse => cases hx'
      rename_i ht
      cases hx'
      subst ht
      rw [hsld t hdst]
      refine resX_tv' (fun hv => ?_) (pure_svs (fun v hv => (argsOf_vals hrp rbase _ pres v hv).2) hsv)
      obtain ⟨v, hv⟩ := hv
      rw [hv] at hgd
      rw [upd_gv hx h.ss g fun p hp => ?_]
      ·exact hg
      ·rw [look_one, if_neg]
       intro he
       have : (TX.val g v).guards t = true := List.any_eq_true.2 ⟨p, hp, by simp [he]⟩
       rw [show (resX g [v]).guards t = (TX.val g v).guards t from rfl, this] at hgd
       cases hgd
     ·intro b l hl
      obtain ⟨k, q1, q2, q3, q4⟩ := newb b l hl
      exact ⟨k, q1, pureT_avs q4 q2, q3, solidL q4⟩
     ·intro b b' l l' hl hl' he
      rw [upd_box hx b'] at hl'
      refine inj2 b b' (by rw [hl]; rfl) ?_ he
      cases ho : look (renB bs (boxesOut S.ps 0 (cellsP (ptrs S.ps) d'))) b' with
      | some y => exact .inl rfl
      | none =>
       rw [ho] at hl'
       simp only [Option.map_eq_some_iff] at hl'
       obtain ⟨l0, hl0, _⟩ := hl'
       exact .inr ⟨l0, hl0⟩
   | true =>
    have himp : S.imp = true := by simp [Sig.imp, hrp]
    have hVs : V.isSome = true := by rw [hVi, himp]
    simp only [backT, hdst, hrp, cond_true] at hx
    rw [← hdst] at hx
    split at hx
    case h_2 => cases hx
    rename_i t1 tt1 hrs
    cases hout : look (renB bs (boxesOut S.ps 0 (cellsP (ptrs S.ps) d'))) (t + rbase) with
    | some y => rw [hout] at hx; cases hx
    | none =>
     rw [hout] at hx
     have hx : TS.upd F Γ (callHit S.imp dst true) (callHit S.imp dst true) (fun b => Nat.beq b (t + rbase)) [(t, .val [] (.one (.box (t + rbase) 0)))] (renB bs (boxesOut S.ps 0 (cellsP (ptrs S.ps) d')) ++ [(t + rbase, cellsP S.rs d)]) = some Γ' := hx
     have hbr : boxesOf S.rs rbase (cellsP S.rs d) = [(rbase, cellsP S.rs d)] := by
      have hlen : (cellsP S.rs d).length = (tyP S.rs).size := ex_length _ _ _
      generalize cellsP S.rs d = cs at hlen
      rw [hrs] at hlen ⊢
      simp only [boxesOf]
      rw [List.take_of_length_le (by rw [hlen]; exact Nat.le_refl _)]
     have hBr : look BB rbase = some (cellsP S.rs d) := by
      simp only [BB, look_append]
      cases ho : look (boxesOut S.ps 0 (cellsP (ptrs S.ps) d')) rbase with
      | some y => have := (boxesOut_sub _ _ _ _ _ ho).2.2; omega
      | none => rw [hbr]; simp [look_cons]
     obtain ⟨kr, r1, r2, r3, r4⟩ := named hVs rbase _ (.inr ⟨rfl, rfl⟩) hBr
     have hfrr : st.hp.next ≤ μ'' rbase := by rw [← hH0]; exact hfr rbase (Nat.le_refl _)
     let μ2 := VS.upd μ (t + rbase) (μ'' rbase)
     have hmu : ∀ b, b ≠ t + rbase → μ2 b = μ b := fun b hb => by simp [μ2, VS.upd, hb]
     have hmut : μ2 (t + rbase) = μ'' rbase := by simp [μ2, VS.upd]
     have nb : ∀ b, look (renB bs (boxesOut S.ps 0 (cellsP (ptrs S.ps) d')) ++ [(t + rbase, cellsP S.rs d)]) b = match look (renB bs (boxesOut S.ps 0 (cellsP (ptrs S.ps) d'))) b with | some l => some l | none => if t + rbase = b then some (cellsP S.rs d) else none := by
      intro b
      rw [look_append]
      split
      ·rename_i heq; simp only [heq]
      ·rename_i heq; simp only [heq, look_one]
     have pm : ∀ p, callHit S.imp dst true p = false → p.mu μ2 = p.mu μ := by
      intro p hp
      cases hr : p.root with
      | slot t' j => simp [Place.mu, hr, Root.mu]
      | obj b c =>
       have := (callHit_no hp).1 himp
       rw [onObj_iff.2 ⟨b, c, hr⟩] at this; cases this
     have hv2 : ∀ p, callHit S.imp dst true p = false → st2.ver (p.mu μ2).root = st.ver (p.mu μ).root := by
      intro p hp
      rw [pm p hp]
      exact hver p (callHit_no hp).1 (fun t ht => ((callHit_no hp).2 t ht).1)
     have T : Tr (callHit S.imp dst true) (callHit S.imp dst true) (fun b => Nat.beq b (t + rbase)) μ μ2 st.ver st2.ver (lnT F Γ) (lnT F Γ') := by
      refine ⟨fun b hb => hmu b (by rintro rfl; simp at hb), fun p hp => ⟨pm p hp, hv2 p hp, fun n hn => upd_ln hx h.ss (fun t' j hr => ?_) (fun b c hr => ?_) hn⟩, fun p hp => ⟨pm p hp, hv2 p hp⟩⟩
      ·rw [look_one, if_neg]
       rintro rfl
       have := ((callHit_no hp).2 t hdst).1
       rw [onSlot_iff.2 ⟨j, hr⟩] at this; cases this
      ·have := (callHit_no hp).1 himp
       rw [onObj_iff.2 ⟨b, c, hr⟩] at this; cases this
     have hml : MuLe st.hp.next μ μ2 := by
      refine ⟨fun b hb => hmu b (by omega), fun b => ?_⟩
      by_cases hbt : b = t + rbase
      ·rw [hbt, hmut]; exact .inr hfrr
      ·exact .inl (hmu b hbt)
     refine wok μ2 (h.upd hx T ?_ ?_ ?_ ?_ ?_ ?_ hnx2) hml
     ·intro t' ht'
      refine hsl2 t' ?_
      rintro he
      rw [hdst] at he
      cases he
      rw [look_one, if_pos rfl] at ht'; cases ht'
     ·intro t' x' hx'
      rw [look_one] at hx'
      split at hx'
      case isFalse => cases hx'
      rename_i ht
      cases hx'
      subst ht
      rw [hsld t hdst]
      have hsv2 : svs μ'' dv dl (argsOf [.ptr t1 tt1] rbase (cellsP S.rs d)) ss' := by
       have := hsv
       generalize cellsP S.rs d = cs at this ⊢
       rwa [hrs] at this
      match ss', hsv2 with
      | [s], hsv2 =>
       obtain ⟨a, rfl, ha⟩ := hsv2.1
       have ha : a = _ := ha
       subst ha
       exact ⟨_, rfl, _, rfl, by simp [TC.av, hmut]⟩
      | [], hsv2 => exact hsv2.elim
      | _ :: _ :: _, hsv2 => exact hsv2.2.elim
     ·intro b l hn hl
      rw [nb b] at hn
      split at hn
      ·cases hn
      ·rename_i ho
       exact unseen b l hl (outne b ho)
     ·intro b l hl
      rw [nb b] at hl
      split at hl
      ·rename_i l' ho
       cases hl
       obtain ⟨k, q1, q2, q3, q4⟩ := newb b l ho
       have hbt : b ≠ t + rbase := by rintro rfl; rw [hout] at ho; cases ho
       rw [hmu b hbt]
       exact ⟨k, q1, pureT_avs q4 q2, q3, solidL q4⟩
      ·split at hl
       case isFalse => cases hl
       rename_i hbt
       cases hl
       subst hbt
       rw [hmut]
       exact ⟨kr, r1, pureT_avs r2 r3, r4, solidL r2⟩
     ·intro b hb
      have : b = t + rbase := Nat.eq_of_beq_eq_true hb
      rw [this, nb (t + rbase), hout, if_pos rfl]; rfl
     ·intro b b' l l' hl hl' he
      have new' : b' ≠ t + rbase → ∃ l0, TS.box F Γ b' = some l0 := by
       intro hne
       rw [upd_box hx b', nb b'] at hl'
       cases ho : look (renB bs (boxesOut S.ps 0 (cellsP (ptrs S.ps) d'))) b' with
       | some y => exact outbx b' (by rw [ho]; rfl)
       | none =>
        rw [ho, if_neg (Ne.symm hne)] at hl'
        simp only [Option.map_eq_some_iff] at hl'
        obtain ⟨l0, hl0, _⟩ := hl'
        exact ⟨l0, hl0⟩
      have lt' : ∀ {b l}, TS.box F Γ b = some l → μ b < st.hp.next := fun {b l} hb => by obtain ⟨_, _, _, q, _⟩ := h.bx b l hb; exact q
      rw [nb b] at hl
      by_cases hbt : b = t + rbase
      ·by_cases hbt' : b' = t + rbase
       ·rw [hbt, hbt']
       ·obtain ⟨l0, hl0⟩ := new' hbt'
        rw [hbt, hmut, hmu b' hbt'] at he
        have := lt' hl0
        omega
      ·have hob : (look (renB bs (boxesOut S.ps 0 (cellsP (ptrs S.ps) d'))) b).isSome = true := by
        cases ho : look (renB bs (boxesOut S.ps 0 (cellsP (ptrs S.ps) d'))) b with
        | some y => rfl
        | none => rw [ho, if_neg (Ne.symm hbt)] at hl; cases hl
       obtain ⟨l1, hl1⟩ := outbx b hob
       by_cases hbt' : b' = t + rbase
       ·rw [hbt', hmut, hmu b hbt] at he
        have := lt' hl1
        omega
       ·obtain ⟨l0, hl0⟩ := new' hbt'
        rw [hmu b hbt, hmu b' hbt'] at he
        exact h.inj b b' l1 l0 hl1 hl0 he
end
end Go.VS
