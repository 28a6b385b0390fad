/- A semantics of values for the model, shown sound for it, and the lifting of functions to plain propositions: part 1. -/
import Derived.ChangeKeysEq
import Derived.Laws.AppendOwn
import Derived.Lib.ItoaNum
import Derived.Lib.LaidTab
import Derived.Orders
import Derived.Tactics
import Derived.WalkKit
set_option linter.unusedVariables false
set_option linter.unusedSimpArgs false
set_option linter.unusedSectionVars false
open Option.some renaming injEq → Qa0
open Option renaming bind_some → Qa1, map_eq_some_iff → Qa2, map_some → Qa4, map_eq_map → Qb1
open List renaming replicate → Qa3, nodup_append → Qa6, drop_eq_nil_of_le → Qa8, getElem?_modify → Qb0, drop_drop → Qb2, ext_getElem? → Qb4, nodup_nil → Qb6, getElem?_eq_getElem → Qb7, flatten_cons → Qb8, take_append_drop → Qb9, getElem?_append_right → Qc2, append_assoc → Qc4, take_of_length_le → Qc5, cons_append → Qc8, nil_append → Qd3, mem_of_mem_take → Qd4, append_inj → Qd5, drop_append → Qd8, getElem?_cons_succ → Qe0, getElem?_cons_zero → Qe1, drop_take → Qe3, mem_of_getElem? → Qe4, mem_of_mem_drop → Qe5
open Nat renaming lt_of_lt_of_le → Qa5, le_refl → Qa7, mul_le_mul_right → Qb5, lt_or_ge → Qc0, succ_mul → Qc3, add_assoc → Qc6, div_eq_of_lt → Qc7, mul_comm → Qd0, mul_add_div → Qd1, le_trans → Qd2, zero_add → Qe7
open BitVec renaming ofInt → Qa9
open Array renaming getD_eq_getD_getElem? → Qb3, getElem?_toList → Qc1, getElem?_setIfInBounds_ne → Qc9, toList_setIfInBounds → Qd6, getElem?_eq_getElem → Qd7, size_setIfInBounds → Qd9, replicate → Qe2, toList_zipIdx → Qe6
namespace Go.VS
theorem zm{p:Prop}(h:p:=by omega):p:=h
theorem zsz{p:Prop}(h:p:=by simp):p:=h
theorem zg{p:Prop}(h:p:=by grind):p:=h
theorem zdz{p:Prop}(h:p:=by decide):p:=h
structure Pg extends Program where
 kp:Value→Prop
instance:Coe Pg Program:=⟨Pg.toProgram⟩
def Pg.of(p:Program):Pg:=⟨p,fun _=>False⟩
inductive Tag|own|imm|brw
 deriving DecidableEq
inductive Root
 |slot (t j:Nat)
 |obj (o c:Nat)
 deriving DecidableEq
structure Stp where
 i:Nat
 k:Nat
 c:Nat
 deriving DecidableEq
structure Place where
 root:Root
 path:List Stp
 deriving DecidableEq
inductive AV
 |lit (v:Value)
 |sl (τ:Tag) (k:Nat) (xs:List (List AV))
 |ptr (o c:Nat)
 |ref (p:Place) (ver k lo n:Nat)
 |adr (p:Place) (ver k i c:Nat)
 |iadr (k:Nat) (xs:List (List AV)) (i c:Nat)
 |clo (f:String×Bool) (caps:List AV)
 |dead
 deriving Inhabited
inductive SV
 |one (a:AV)
 |agg (l:List AV)
 deriving Inhabited
def SV.cells:SV→List AV
 |.one a=>[a]
 |.agg l=>l
inductive TV
 |val (g:Bool) (s:SV)
 |tup (l:List SV)
 |dead
abbrev AV.int(n:Int):AV:=.lit (.int .i64 n)
abbrev AV.bool(b:Bool):AV:=.lit (.bool b)
abbrev AV.nil:AV:=.lit (.slice none 0 0)
abbrev V(a:AV):TV:=.val true (.one a)
abbrev A(l:List AV):TV:=.val true (.agg l)
structure Heap where
 get:Nat→Option (List AV)
 next:Nat
def upd{α:Type}(f:Nat→α)(t:Nat)(x:α):Nat→α:=fun t'=>if t'=t then x else f t'
def Heap.alloc(h:Heap)(cells:List AV):Heap:=⟨upd h.get h.next (some cells),h.next+1⟩
def Heap.set(h:Heap)(o:Nat)(cells:List AV):Heap:=⟨upd h.get o (some cells),h.next⟩
def Heap.empty:Heap:=⟨fun _=>none,0⟩
structure St where
 sl:Nat→TV
 hp:Heap
 vs:Nat→Nat
 hv:Nat
def AV.Ci:AV→Bool
 |.sl .own _ _=>true
 |_=>false
def SV.CI(s:SV):Bool:=s.cells.any AV.Ci
def TV.CI:TV→Bool
 |.val _ s=>s.CI
 |.tup l=>l.any SV.CI
 |.dead=>false
mutual
def AV.lend:AV→AV
 |.sl .own k xs=>.sl .brw k (KL xs)
 |a=>a
def XE:List AV→List AV
 |[]=>[]
 |a::l=>a.lend::XE l
def KL:List (List AV)→List (List AV)
 |[]=>[]
 |l::ls=>XE l::KL ls
end
mutual
def AV.frz:AV→AV
 |.sl .own k xs=>.sl .imm k (OR xs)
 |a=>a
def Aa0:List AV→List AV
 |[]=>[]
 |a::l=>a.frz::Aa0 l
def OR:List (List AV)→List (List AV)
 |[]=>[]
 |l::ls=>Aa0 l::OR ls
end
theorem Adb(l:List AV):XE l=l.map AV.lend:=by induction l<;>simp[XE, *]
theorem PG(l:List (List AV)):KL l=l.map (List.map AV.lend):=by induction l<;>simp[KL,Adb, *]
theorem Sa(l:List AV):Aa0 l=l.map AV.frz:=by induction l<;>simp[Aa0, *]
theorem R9(l:List (List AV)):OR l=l.map (List.map AV.frz):=by induction l<;>simp[OR,Sa, *]
mutual
def AV.free:AV→Bool
 |.lit _=>true
 |.sl .brw _ _=>false
 |.sl _ _ xs=>HR xs
 |.ptr _ _=>true
 |.clo _ caps=>C8 caps
 |_=>false
def C8:List AV→Bool
 |[]=>true
 |a::l=>a.free&&C8 l
def HR:List (List AV)→Bool
 |[]=>true
 |l::ls=>C8 l&&HR ls
end
theorem Xg(l:List AV):C8 l=l.all AV.free:=by induction l<;>simp[C8, *]
theorem T8(l:List (List AV)):HR l=l.all (fun l=>l.all AV.free):=by induction l<;>simp[HR,Xg, *]
def AV.at:AV→List Stp→Option AV
 |a,[]=>some a
 |.sl .own k xs,s::r=>if s.k=k then((xs[s.i]?).bind (·[s.c]?)).bind (·.at r)else none
 |_,_=>none
def AV.put:AV→List Stp→AV→AV
 |_,[],b=>b
 |.sl .own k xs,s::r,b=>if s.k=k then .sl .own k (xs.modify s.i (·.modify s.c (·.put r b)))else .sl .own k xs
 |a,_,_=>a
def TV.cell:TV→Nat→Option AV
 |.val true s,j=>s.cells[j]?
 |_,_=>none
def SV.setCell:SV→Nat→AV→SV
 |.one _,0,b=>.one b
 |.one a,_,_=>.one a
 |.agg l,j,b=>.agg (l.set j b)
def TV.setCell:TV→Nat→AV→TV
 |.val g s,j,b=>.val g (s.setCell j b)
 |t,_,_=>t
def St.root(st:St):Root→Option AV
 |.slot t j=>(st.sl t).cell j
 |.obj o c=>(st.hp.get o).bind (·[c]?)
def St.at(st:St)(p:Place):Option AV:=(st.root p.root).bind (·.at p.path)
def St.ver(st:St):Root→Nat
 |.slot t _=>st.vs t
 |.obj _ _=>st.hv
def St.Au(st:St):Root→AV→St
 |.slot t j,b=>⟨upd st.sl t ((st.sl t).setCell j b),st.hp,st.vs,st.hv⟩
 |.obj o c,b=>match st.hp.get o with
  |some l=>⟨st.sl,st.hp.set o (l.set c b),st.vs,st.hv⟩
  |none=>st
def St.putAt(st:St)(p:Place)(b:AV):St:=
 match st.root p.root with
 |some a=>st.Au p.root (a.put p.path b)
 |none=>st
def St.bump(st:St):Root→St
 |.slot t _=>⟨st.sl,st.hp,upd st.vs t (st.vs t+1),st.hv⟩
 |.obj _ _=>⟨st.sl,st.hp,st.vs,st.hv+1⟩
def St.set(st:St)(t:Nat)(x:TV):St:=
 ⟨upd st.sl t x,st.hp,if(st.sl t).CI then upd st.vs t (st.vs t+1)else st.vs,st.hv⟩
def M(α:Type):Type:=Option (Prop×α)
namespace M
def pure{α:Type}(a:α):M α:=some (True,a)
def need(p:Prop):M Unit:=some (p,())
def fail{α:Type}:M α:=none
def bind{α β:Type}(x:M α)(f:α→M β):M β:=
 match x with
 |none=>none
 |some (p,a)=>match f a with
  |none=>none
  |some (q,b)=>some (p∧q,b)
instance:Monad M where
 pure:=M.pure
 bind:=M.bind
def holds{α:Type}(x:M α)(K:α→Prop):Prop:=
 match x with
 |none=>False
 |some (p,a)=>p∧K a
theorem Aa{α β:Type}(x:M α)(f:α→M β)(K:β→Prop):(x>>=f).holds K=x.holds fun a=>(f a).holds K:=by
 show(M.bind x f).holds K=_
 match x with
 |none=>rfl
 |some (p,a)=>
  grind [M.bind,holds]
theorem Ae{α:Type}(a:α)(K:α→Prop):(Pure.pure a:M α).holds K=K a:=by
 show(True∧K a)=K a;simp
theorem Ak(p:Prop)(K:Unit→Prop):(need p).holds K=(p∧K ()):=rfl
theorem Aw{α:Type}(x:M α)(K:α→Prop):x.holds K↔∃a,x.holds (·=a)∧K a:=by
 match x with
 |none=>simp[holds]
 |some (p,a)=>exact⟨fun h=>⟨a,⟨h.1,rfl⟩,h.2⟩,fun⟨b,⟨h1,h2⟩,h3⟩=>⟨h1,zg⟩⟩
theorem Ah{α:Type}{x:M α}{K K':α→Prop}(h:x.holds K)(hk:∀a,K a→K' a):x.holds K':=by
 match x,h with
 |some (p,a),h=>exact⟨h.1,hk _ h.2⟩
end M
inductive Opd
 |t (n:Nat)
 |c (v:Value)
 |f (name:String)
 deriving Inhabited
inductive Cv
 |toInt (k:IntKind)
 |ident
 |ofInt
 |bytesToStr
 |strToBytes
 deriving DecidableEq
inductive CK|int|str|bool
 deriving DecidableEq
inductive AOp
 |mv (x:Opd)
 |asg (x:Opd)
 |pick (c a b:Opd)
 |alloc (zero:List Value)
 |box (x:Opd)
 |build (zero:List Value) (parts:List (Nat×Nat×Opd))
 |buildSl (k:Nat) (zero:List Value) (len:Nat) (parts:List (Nat×Opd))
 |load (agg:Bool) (n:Nat) (x:Opd)
 |store (n:Nat) (a x:Opd)
 |nilc (x:Opd)
 |bin (op:BinOp) (x y:Opd)
 |eqA (ne:Bool) (ks:List CK) (x y:Opd)
 |eqB (ne:Bool) (x y:Opd)
 |un (op:UnOp) (x:Opd)
 |conv (c:Cv) (x:Opd)
 |mkSl (k bytes:Nat) (zero:List Value) (l c:Opd)
 |slS (x:Opd) (lo hi:Option Opd)
 |slK (k:Nat) (x:Opd) (lo hi:Option Opd)
 |fAddr (off:Nat) (x:Opd)
 |fld (agg:Bool) (off n:Nat) (x:Opd)
 |ixA (k:Nat) (x i:Opd)
 |ixAr (n k:Nat) (x i:Opd)
 |ixS (x i:Opd)
 |ixV (agg:Bool) (n k:Nat) (x i:Opd)
 |lenK (x:Opd)
 |lenS (x:Opd)
 |lenC (n:Nat)
 |app (k bytes:Nat) (s x:Opd)
 |mm (mx:Bool) (x y:Opd)
 |ext (x:Opd) (i:Nat)
 |mkf (f:String×Bool) (caps:List Opd)
 |call (f:String) (xs:List Opd)
 |callv (f:Opd) (xs:List Opd)
 |mkI (t:TypeId) (x:Opd)
 |panic (x:Opd)
 deriving Inhabited
structure GOp where
 dst:Option Nat
 op:AOp
 guard:Option (Nat×Bool):=none
 deriving Inhabited
def Jd(mk:Nat→Nat→Nat→AV):Nat→List AV→List AV
 |_,[]=>[]
 |j,a::l=>(match a with|.sl .own k xs=>mk j k xs.length|a=>a)::Jd mk (j+1) l
def XS:AV→AV
 |.ref ..=>.dead
 |.adr ..=>.dead
 |a=>a
def HY(mk:Nat→Nat→Nat→AV):Nat→List AV→List AV
 |_,[]=>[]
 |j,a::l=>(match a with|.sl .own k xs=>mk j k xs.length|a=>XS a)::HY mk (j+1) l
def St.peek(st:St)(n:Nat):SV→SV
 |.one a=>.one (match a with|.sl .own k xs=>(.ref ⟨.slot n 0,[]⟩ (st.vs n) k 0 xs.length)|a=>a)
 |.agg l=>.agg (Jd (fun j k len=>.ref ⟨.slot n j,[]⟩ (st.vs n) k 0 len) 0 l)
def St.use(st:St)(g:Bool):Opd→M SV
 |.c v=>pure (.one (.lit v))
 |.f nm=>pure (.one (.clo (nm,false) []))
 |.t n=>match st.sl n with
  |.val b s=>do M.need (g=true→b=true);pure (st.peek n s)
  |_=>M.fail
def St.H9(st:St)(g:Bool)(x:Opd):M Int:=do
 match←st.use g x with
 |.one (.lit (.int _ n))=>pure n
 |_=>M.fail
def St.IZ(st:St)(g:Bool)(x:Opd):M Bool:=do
 match←st.use g x with
 |.one (.lit (.bool b))=>pure b
 |_=>M.fail
def St.CJ(st:St)(g:Bool)(x:Opd):M AV:=do
 match←st.use g x with
 |.one a=>pure a
 |_=>M.fail
def Abm(agg:Bool)(l:List AV):SV:=if agg then .agg l else .one (l.headD .dead)
def sub(l:List AV)(c n k:Nat):List AV:=if c=0∧n=k then l else(l.drop c).take n
def window{α:Type}(lo n:Nat)(xs:List α):List α:=if lo=0∧n=xs.length then xs else(xs.drop lo).take n
def setCells{α:Type}(l:List α)(c:Nat):List α→List α
 |[]=>l
 |a::as=>setCells (l.set c a) (c+1) as
def Ab9(op:BinOp):Value→Value→Bool→Option (Prop×Value)
 |.int k a,.int k' b,g=>
  match op with
  |.add=>if k=k' then some (True,.int k (k.wrap (a+b)))else none
  |.sub=>if k=k' then some (True,.int k (k.wrap (a -b)))else none
  |.mul=>if k=k' then some (True,.int k (k.wrap (a*b)))else none
  |.quo=>if k=k' then some (g=true→b≠0,.int k (k.wrap (a.tdiv b)))else none
  |.rem=>if k=k' then some (g=true→b≠0,.int k (a.tmod b))else none
  |.and=>if k=k' then some (True,.int k (k.wrap (Qa9 k.bits a&&&Qa9 k.bits b).toNat))else none
  |.or=>if k=k' then some (True,.int k (k.wrap (Qa9 k.bits a|||Qa9 k.bits b).toNat))else none
  |.xor=>if k=k' then some (True,.int k (k.wrap (Qa9 k.bits a^^^Qa9 k.bits b).toNat))else none
  |.andNot=>if k=k' then some (True,.int k (k.wrap (Qa9 k.bits a&&&~~~Qa9 k.bits b).toNat))else none
  |.eql=>if k=k' then some (True,.bool (a==b))else none
  |.neq=>if k=k' then some (True,.bool (a !=b))else none
  |.lss=>if k=k' then some (True,.bool (a<b))else none
  |.leq=>if k=k' then some (True,.bool (a≤b))else none
  |.gtr=>if k=k' then some (True,.bool (a>b))else none
  |.geq=>if k=k' then some (True,.bool (a≥b))else none
  |.shl=>some (g=true→0≤b,.int k (k.wrap (a*2^(min b.toNat k.bits))))
  |.shr=>some (g=true→0≤b,.int k (a.fdiv (2^(min b.toNat k.bits))))
 |.string a,.string b,g=>
  match op with
  |.add=>some (g=true→a.size+b.size≤9223372036854775807,.string ⟨a.data++b.data⟩)
  |.eql=>some (True,.bool (a.data.toList==b.data.toList))
  |.neq=>some (True,.bool (!(a.data.toList==b.data.toList)))
  |.lss=>some (True,.bool (Op.bytesLess a.data.toList b.data.toList))
  |.leq=>some (True,.bool (Op.bytesLess a.data.toList b.data.toList||a.data.toList==b.data.toList))
  |.gtr=>some (True,.bool (!(Op.bytesLess a.data.toList b.data.toList||a.data.toList==b.data.toList)))
  |.geq=>some (True,.bool (!(Op.bytesLess a.data.toList b.data.toList)))
  |_=>none
 |_,_,_=>none
def QP:CK→AV→AV→Option Bool
 |.int,.lit (.int k a),.lit (.int k' b)=>if k=k' then some (a==b)else none
 |.str,.lit (.string a),.lit (.string b)=>some (a.data.toList==b.data.toList)
 |.bool,.lit (.bool a),.lit (.bool b)=>some (a==b)
 |_,_,_=>none
def EZ:List CK→List AV→List AV→Option Bool
 |[],[],[]=>some true
 |k::ks,a::l,b::m=>match QP k a b,EZ ks l m with
  |some x,some y=>some (x&&y)
  |_,_=>none
 |_,_,_=>none
def unV(op:UnOp):Value→Option Value
 |.int k n=>match op with
  |.neg=>some (.int k (k.wrap (0 -n)))
  |.xor=>some (.int k (k.wrap (Qa9 k.bits (if k.signed then-1 else k.max)^^^Qa9 k.bits n).toNat))
  |_=>none
 |.bool b=>match op with
  |.not=>some (.bool !b)
  |_=>none
 |_=>none
def M.ofOption{α:Type}:Option (Prop×α)→M α:=fun x=>x
def M.Ep{α:Type}:Option α→M α
 |some a=>pure a
 |none=>M.fail
theorem M.Dh{α:Type}{x:Option α}{K:α→Prop}:(M.Ep x).holds K↔∃a,x=some a∧K a:=by
 cases x with
 |none=>exact⟨fun h=>h.elim,fun⟨_,h,_⟩=>nomatch h⟩
 |some a=>exact⟨fun h=>⟨a,rfl,h.2⟩,fun⟨_,h,k⟩=>by cases h;trivial⟩
theorem M.OW{α:Type}{x:Option (Prop×α)}{K:α→Prop}:(M.ofOption x).holds K↔∃p a,x=some (p,a)∧p∧K a:=by
 cases x with
 |none=>exact⟨fun h=>h.elim,fun⟨_,_,h,_⟩=>nomatch h⟩
 |some a=>exact⟨fun h=>⟨a.1,a.2,rfl,h.1,h.2⟩,fun⟨_,_,h,k⟩=>by cases h;exact k⟩
def JF(st:St)(g:Bool)(cells:List AV):List (Nat×Nat×Opd)→M (List AV)
 |[]=>pure cells
 |(off,n,x)::r=>do
  let s←st.use g x
  if s.cells.length=n then
   JF st g (setCells cells off s.cells) r
  else M.fail
def QO(st:St)(g:Bool):List Opd→M (List AV)
 |[]=>pure []
 |x::r=>do
  let a←st.CJ g x
  let l←QO st g r
  pure (a::l)
def strOf(l:List Int):List UInt8:=l.map fun n=>UInt8.ofNat n.toNat
def bytesOf:List (List AV)→Option (List Int)
 |[]=>some []
 |[.lit (.int .u8 n)]::r=>(bytesOf r).map (n::·)
 |_=>none
def St.whole(st:St):AV→M (List (List AV))
 |.ref p v k lo n=>match st.at p with
  |some (.sl .own k' xs)=>do
   M.need (v=st.ver p.root)
   M.need (k'=k)
   M.need (k=1)
   M.need (lo+n≤xs.length)
   pure (window lo n xs)
  |_=>M.fail
 |.sl _ k xs=>do
  M.need (k=1)
  pure xs
 |.lit (.slice none 0 0)=>pure []
 |_=>M.fail
def Anf:AV→M Int
 |.ref _ _ _ _ n=>pure n
 |.sl _ _ xs=>pure xs.length
 |.lit (.slice none 0 0)=>pure 0
 |_=>M.fail
def AkW(st:St)(g:Bool)(len:Nat):Option Opd→M Nat
 |none=>pure len
 |some x=>do
  let h←st.H9 g x
  M.need (g=true→0≤h∧h≤len)
  pure h.toNat
def AiH(st:St)(g:Bool)(h:Nat):Option Opd→M Nat
 |none=>pure 0
 |some x=>do
  let l←st.H9 g x
  M.need (g=true→0≤l∧l≤h)
  pure l.toNat
def I8(st:St)(g:Bool)(len:Nat)(lo hi:Option Opd):M (Nat×Nat):=do
 let h←AkW st g len hi
 let l←AiH st g h lo
 pure (l,h)
def St.BL(st:St)(g:Bool):AOp→M SV
 |.mv x=>st.use g x
 |.pick c a b=>do
  let c←st.IZ g c
  let a←st.IZ (g&&c) a
  let b←st.IZ (g&&!c) b
  pure (.one (.bool (bif c then a else b)))
 |.build zero parts=>do
  let l←JF st g (zero.map .lit) parts
  pure (.agg l)
 |.load agg n x=>do
  match←st.CJ g x with
  |.ptr o c=>match st.hp.get o with
   |some l=>do
    M.need (c+n≤l.length)
    pure (Abm agg (HY (fun j k len=>.ref ⟨.obj o (c+j),[]⟩ st.hv k 0 len) 0 (sub l c n l.length)))
   |none=>M.fail
  |.adr p v k i c=>match st.at p with
   |some (.sl .own k' xs)=>do
    M.need (v=st.ver p.root)
    M.need (k'=k)
    M.need (g=true→i<xs.length)
    M.need (c+n≤k)
    pure (Abm agg (HY (fun j k' len=>.ref ⟨p.root,p.path++[⟨i,k,c+j⟩]⟩ v k' 0 len) 0 (sub (xs.getD i []) c n k)))
   |_=>M.fail
  |.iadr k xs i c=>do
   M.need (g=true→i<xs.length)
   M.need (c+n≤k)
   pure (Abm agg ((sub (xs.getD i []) c n k).map XS))
  |_=>M.fail
 |.nilc x=>do
  match←st.CJ g x with
  |.ptr o c=>pure (.one (.ptr o c))
  |.adr p v k i c=>pure (.one (.adr p v k i c))
  |.iadr k xs i c=>pure (.one (.iadr k xs i c))
  |.clo f caps=>pure (.one (.clo f caps))
  |_=>M.fail
 |.bin op x y=>do
  match←st.use g x,←st.use g y with
  |.one (.lit a),.one (.lit b)=>do
   let v←M.ofOption (Ab9 op a b g)
   pure (.one (.lit v))
  |_,_=>M.fail
 |.eqB ne x y=>do
  let a←st.IZ g x
  let b←st.IZ g y
  pure (.one (.bool (if ne then !(a==b)else(a==b))))
 |.eqA ne ks x y=>do
  match←st.use g x,←st.use g y with
  |.agg l,.agg m=>do
   let b←M.Ep (EZ ks l m)
   pure (.one (.bool (if ne then !b else b)))
  |_,_=>M.fail
 |.un op x=>do
  match←st.CJ g x with
  |.lit a=>do
   let v←M.Ep (unV op a)
   pure (.one (.lit v))
  |_=>M.fail
 |.conv c x=>do
  match c,←st.CJ g x with
  |.toInt k,.lit (.int _ n)=>pure (.one (.lit (.int k (k.wrap n))))
  |.ident,.lit (.string b)=>pure (.one (.lit (.string b)))
  |.ofInt,.lit (.int _ n)=>pure (.one (.lit (.string (Utf8.encode n))))
  |.bytesToStr,a=>do
   let ys←st.whole a
   let l←M.Ep (bytesOf ys)
   pure (.one (.lit (.string ⟨(strOf l).toArray⟩)))
  |_,_=>M.fail
 |.mkSl k bytes zero l c=>do
  let l←st.H9 g l
  let c←st.H9 g c
  M.need (g=true→0≤l∧l≤c∧bytes*c≤281474976710656)
  M.need (g=true→c≤9223372036854775807)
  M.need (g=true)
  pure (.one (.sl .own k (Qa3 l.toNat (zero.map .lit))))
 |.slS x lo hi=>do
  match←st.CJ g x with
  |.lit (.string s)=>do
   let(l,h)←I8 st g s.size lo hi
   pure (.one (.lit (.string (s.extract l h))))
  |_=>M.fail
 |.slK k x lo hi=>do
  match←st.CJ g x with
  |.ref p v k' lo0 n=>match st.at p with
   |some (.sl .own _ _)=>do
    M.need (v=st.ver p.root)
    M.need (k'=k)
    let(l,h)←I8 st g n lo hi
    pure (.one (.ref p v k (lo0+l) (h -l)))
   |_=>M.fail
  |.sl τ k' xs=>do
   M.need (k'=k)
   M.need (τ≠.own)
   let(l,h)←I8 st g xs.length lo hi
   pure (.one (.sl τ k (window l (h -l) xs)))
  |.lit (.slice none 0 0)=>do
   let _←I8 st g 0 lo hi
   pure (.one (.lit (.slice none 0 0)))
  |_=>M.fail
 |.fAddr off x=>do
  match←st.CJ g x with
  |.ptr o c=>pure (.one (.ptr o (c+off)))
  |.adr p v k i c=>pure (.one (.adr p v k i (c+off)))
  |.iadr k xs i c=>pure (.one (.iadr k xs i (c+off)))
  |_=>M.fail
 |.fld agg off n x=>do
  match←st.use g x with
  |.agg l=>do
   M.need (off+n≤l.length)
   pure (Abm agg (sub l off n l.length))
  |_=>M.fail
 |.ixA k x i=>do
  let i←st.H9 g i
  match←st.CJ g x with
  |.ref p v k' lo n=>match st.at p with
   |some (.sl .own _ _)=>do
    M.need (v=st.ver p.root)
    M.need (k'=k)
    M.need (g=true→0≤i∧i<n)
    pure (.one (.adr p v k (lo+i.toNat) 0))
   |_=>M.fail
  |.sl τ k' xs=>do
   M.need (k'=k)
   M.need (τ≠.own)
   M.need (g=true→0≤i∧i<xs.length)
   pure (.one (.iadr k xs i.toNat 0))
  |_=>M.fail
 |.ixAr n k x i=>do
  let i←st.H9 g i
  M.need (g=true→0≤i∧i<n)
  match←st.CJ g x with
  |.ptr o c=>pure (.one (.ptr o (c+i.toNat*k)))
  |.adr p v k' j c=>pure (.one (.adr p v k' j (c+i.toNat*k)))
  |.iadr k' xs j c=>pure (.one (.iadr k' xs j (c+i.toNat*k)))
  |_=>M.fail
 |.ixS x i=>do
  let i←st.H9 g i
  match←st.CJ g x with
  |.lit (.string s)=>do
   M.need (g=true→0≤i∧i<s.size)
   pure (.one (.lit (.int .u8 (s.data.toList.getD i.toNat 0).toNat)))
  |_=>M.fail
 |.ixV agg n k x i=>do
  let i←st.H9 g i
  match←st.use g x with
  |.agg l=>do
   M.need (g=true→0≤i∧i<n)
   M.need (n*k≤l.length)
   pure (Abm agg (sub l (i.toNat*k) k l.length))
  |_=>M.fail
 |.lenK x=>do
  let n←Anf (←st.CJ g x)
  pure (.one (.int n))
 |.lenS x=>do
  match←st.CJ g x with
  |.lit (.string s)=>pure (.one (.int s.size))
  |_=>M.fail
 |.lenC n=>pure (.one (.int n))
 |.mm mx x y=>do
  match←st.CJ g x,←st.CJ g y with
  |.lit (.int k a),.lit (.int _ b)=>pure (.one (.lit (.int k (if mx then(if b>a then b else a)else(if b<a then b else a)))))
  |_,_=>M.fail
 |.mkf f caps=>do
  let l←QO st g caps
  M.need (l.all AV.free=true)
  pure (.one (.clo f l))
 |.mkI t x=>do
  match←st.CJ g x with
  |.lit v=>pure (.one (.lit (.iface t v)))
  |_=>M.fail
 |_=>M.fail
def St.Fh(v0:Root→Nat)(mem:Bool)(st:St):AV→M (AV×St×List Root)
 |.ref p v k lo n=>bif !mem&&!p.path.isEmpty then pure (.ref p v k lo n,st,[])else match st.at p with
  |some (.sl .own k' xs)=>do
   M.need (v=v0 p.root)
   M.need (k'=k)
   M.need (lo+n≤xs.length)
   pure (.sl .own k (window lo n xs),st.putAt p .dead,[p.root])
  |_=>M.fail
 |.adr p v k i c=>if mem then M.fail else pure (.adr p v k i c,st,[])
 |.iadr k xs i c=>if mem then M.fail else pure (.iadr k xs i c,st,[])
 |.dead=>M.fail
 |.sl .own _ _=>M.fail
 |a=>pure (a,st,[])
def St.CG(v0:Root→Nat)(mem:Bool)(st:St):List AV→M (List AV×St×List Root)
 |[]=>pure ([],st,[])
 |a::l=>do
  let(b,st1,rs)←st.Fh v0 mem a
  let(m,st2,rs')←st1.CG v0 mem l
  pure (b::m,st2,rs++rs')
def St.bumps(st:St):List Root→St
 |[]=>st
 |r::rs=>(st.bump r).bumps rs
def SV.with(s:SV)(l:List AV):SV:=
 match s with
 |.one _=>.one (l.headD .dead)
 |.agg _=>.agg l
def St.take(st:St)(mem:Bool)(x:Opd):M (SV×St):=do
 let s←st.use true x
 let(l,st1,rs)←st.CG st.ver mem s.cells
 pure (s.with l,st1.bumps rs)
def Gi(st:St)(k:Nat)(cells:List (List AV)):List (Nat×Opd)→M (List (List AV)×St)
 |[]=>pure (cells,st)
 |(i,x)::r=>do
  let(s,st1)←st.take true x
  if s.cells.length=k then
   Gi st1 k (cells.set i s.cells) r
  else M.fail
def St.source(st:St)(k:Nat):Opd→M (List (List AV)×St)
 |.c (.slice none 0 0)=>pure ([],st)
 |.t m=>match st.sl m with
  |.val b (.one (.sl .own k' ys))=>do
   M.need (b=true)
   M.need (k'=k)
   pure (ys,st.set m .dead)
  |.val b (.one (.sl _ k' ys))=>do
   M.need (b=true)
   M.need (k'=k)
   pure (ys,st)
  |.val b (.one (.lit (.slice none 0 0)))=>do
   M.need (b=true)
   pure ([],st)
  |.val b (.one (.ref p v k'' lo n))=>match st.at p with
   |some (.sl .own k' ys)=>do
    M.need (b=true)
    M.need (k''=k)
    M.need (k'=k)
    M.need (v=st.ver p.root)
    M.need (lo+n≤ys.length)
    M.need (∀l∈window lo n ys,l.any AV.Ci=false)
    pure (window lo n ys,st)
   |_=>M.fail
  |_=>M.fail
 |_=>M.fail
def St.base(st:St)(k:Nat)(s:Opd):M (List (List AV)×St):=do
 let(s,st1)←st.take false s
 match s with
 |.one (.sl .own k' xs)=>do
  M.need (k'=k)
  pure (xs,st1)
 |.one (.lit (.slice none 0 0))=>pure ([],st1)
 |_=>M.fail
def AV.solid:AV→Bool
 |.ref ..=>false
 |.adr ..=>false
 |_=>true
def SV.husk:SV→SV
 |.one a=>.one (if a.Ci then .dead else a)
 |.agg l=>.agg (l.map fun a=>if a.Ci then .dead else a)
def St.Ja(st:St)(dst:Option Nat):AOp→M St
 |.asg x=>match dst with
  |some d=>do
   let(s,st1)←st.take false x
   pure (st1.set d (.val true s))
  |none=>M.fail
 |.alloc zero=>match dst with
  |some d=>pure (St.set ⟨st.sl,st.hp.alloc (zero.map .lit),st.vs,st.hv⟩ d (V (.ptr st.hp.next 0)))
  |none=>M.fail
 |.box x=>match dst with
  |some d=>do
   let(s,st1)←st.take true x
   pure (St.set ⟨st1.sl,st1.hp.alloc s.cells,st1.vs,st1.hv⟩ d (V (.ptr st1.hp.next 0)))
  |none=>M.fail
 |.buildSl k zero len parts=>match dst with
  |some d=>do
   let(xs,st1)←Gi st k (Qa3 len (zero.map .lit)) parts
   pure (st1.set d (V (.sl .own k xs)))
  |none=>M.fail
 |.store n a x=>do
  let(s,st1)←st.take true x
  if s.cells.length=n then
   match←st1.CJ true a with
   |.ptr o c=>match st1.hp.get o with
    |some l=>do
     M.need (c+n≤l.length)
     let st2:St:=⟨st1.sl,st1.hp.set o (setCells l c s.cells),st1.vs,st1.hv⟩
     pure (if((l.drop c).take n).any AV.Ci then st2.bump (.obj o c)else st2)
    |none=>M.fail
   |.adr p v k' i c=>match st1.at p with
    |some (.sl .own k xs)=>do
     M.need (v=st1.ver p.root)
     M.need (k'=k)
     M.need (i<xs.length)
     M.need (c+n≤k)
     let st2:=st1.putAt p (.sl .own k (xs.set i (setCells (xs.getD i []) c s.cells)))
     pure (if(((xs.getD i []).drop c).take n).any AV.Ci then st2.bump p.root else st2)
    |_=>M.fail
   |_=>M.fail
  else M.fail
 |.app k bytes s x=>match dst with
  |some d=>do
   let(ys,st1)←st.source k x
   let(xs,st2)←st1.base k s
   M.need ((xs.length+ys.length)*bytes≤140737488355328)
   M.need (xs.length+ys.length≤9223372036854775807)
   pure (st2.set d (V (.sl .own k (xs++ys))))
  |none=>M.fail
 |.ext x i=>match x,dst with
  |.t n,some d=>match st.sl n with
   |.tup l=>match l[i]?with
    |some s=>do
     M.need (s.cells.all AV.solid=true)
     pure ((st.set n (.tup (l.set i s.husk))).set d (.val true s))
    |none=>M.fail
   |_=>M.fail
  |_,_=>M.fail
 |_=>M.fail
def AOp.isW:AOp→Bool
 |.asg _|.alloc _|.box _|.buildSl ..|.store ..|.app ..|.ext ..|.panic _=>true
 |_=>false
def St.guard(st:St):Option (Nat×Bool)→M Bool
 |none=>pure true
 |some (t,want)=>match st.sl t with
  |.val b (.one (.lit (.bool c)))=>pure (b&&(c==want))
  |_=>M.fail
abbrev Vis:=Option (Nat→Bool)
def Vis.sees:Vis→Nat→Bool
 |none,_=>false
 |some v,o=>v o
def Root.hid(V:Vis):Root→Bool
 |.slot ..=>true
 |.obj o _=>!V.sees o
def St.Fz(st:St)(V:Vis):AV→M AV
 |.ref p v k lo n=>match st.at p with
  |some (.sl .own k' xs)=>do
   M.need (p.root.hid V=true)
   M.need (v=st.ver p.root)
   M.need (k'=k)
   M.need (lo+n≤xs.length)
   pure (.sl .brw k (KL (window lo n xs)))
  |_=>M.fail
 |.sl .own k xs=>pure (.sl .imm k (OR xs))
 |.adr ..=>M.fail
 |.iadr ..=>M.fail
 |.dead=>M.fail
 |a=>pure a
def St.HN(st:St)(V:Vis):List AV→M (List AV)
 |[]=>pure []
 |a::l=>do
  let b←st.Fz V a
  let m←st.HN V l
  pure (b::m)
def St.arg(st:St)(V:Vis)(g:Bool):Opd→M SV
 |.c v=>pure (.one (.lit v))
 |.f nm=>pure (.one (.clo (nm,false) []))
 |.t n=>match st.sl n with
  |.val b s=>do
   M.need (g=true→b=true)
   let l←st.HN V s.cells
   pure (s.with l)
  |_=>M.fail
def St.args(st:St)(V:Vis)(g:Bool):List Opd→M (List SV)
 |[]=>pure []
 |x::r=>do
  let a←st.arg V g x
  let l←st.args V g r
  pure (a::l)
def St.EG(st:St):Opd→St
 |.t n=>if(st.sl n).CI then
   st.set n (match st.sl n with
    |.val b (.one a)=>.val b (.one a.frz)
    |.val b (.agg l)=>.val b (.agg (l.map AV.frz))
    |x=>x)
  else st
 |_=>st
def St.HS(st:St):List Opd→St
 |[]=>st
 |x::r=>(st.EG x).HS r
end Go.VS
namespace Go.VS
structure Ctx where
 P:Program
 lam:Nat→Nat
 nx:Nat
 zt:Nat→Prop
 zb:Nat→Prop
structure Ctx.Le(C C':Ctx):Prop where
 P:C'.P=C.P
 lam:∀o,o<C.nx→C'.lam o=C.lam o
 nx:C.nx≤C'.nx
 zt:∀b,C.zt b→C'.zt b
 zb:∀b,C.zb b→C'.zb b
theorem Ctx.Le.refl(C:Ctx):C.Le C:=⟨rfl,fun _ _=>rfl,Qa7 _,fun _ h=>h,fun _ h=>h⟩
mutual
inductive RV (C:Ctx) (w:World):AV→Value→List Nat→Prop
 |lit (v:Value) (h:v.oneCell'=true):RV C w (.lit v) v []
 |dead (v:Value) (h:v.oneCell'=true):RV C w .dead v []
 |ptr (o c:Nat) (h:o<C.nx):RV C w (.ptr o c) (.pointer (some ⟨C.lam o,c,none⟩)) []
 |ref (p:Place) (ver k lo n:Nat) (a:Option Addr) (cap:Nat):RV C w (.ref p ver k lo n) (.slice a n cap) []
 |adr (p:Place) (ver k i c:Nat) (a:Addr):RV C w (.adr p ver k i c) (.pointer (some a)) []
 |iadr (k:Nat) (xs:List (List AV)) (i c b off:Nat) (cs:Array Value) (e:TypeId) (fz:Nat×Nat) (hz:C.zb b) (hb:w.heap[b]?=some (.cells cs e fz))
   (hs:off+xs.length*k≤cs.size) (hk:∀x∈xs,x.length=k) (hr:RVs C w xs.flatten ((cs.toList.drop off).take (xs.length*k)) []):
   RV C w (.iadr k xs i c) (.pointer (some ⟨b,off+i*k+c,none⟩)) []
 |clo (name:String×Bool) (caps:List AV) (f:FuncId) (fn:Func) (cvs:List Value) (hf:C.P.funcs[f]?=some fn) (hn:fn.name=name.1) (hr:RVs C w caps cvs []):
   RV C w (.clo name caps) (.func (.func f) (bif name.2 then cvs.toArray else#[]) (bif name.2 then#[]else cvs.toArray)) []
 |slNil (τ:Tag) (k:Nat):RV C w (.sl τ k []) (.slice none 0 0) []
 |shrE (τ:Tag) (k:Nat) (a:Addr) (cap:Nat) (ht:τ≠.own):RV C w (.sl τ k []) (.slice (some a) 0 cap) []
 |own (k:Nat) (xs:List (List AV)) (b off cap:Nat) (cs:Array Value) (e:TypeId) (f:List Nat) (hb:w.heap[b]?=some (.cells cs e (0,0)))
   (hs:off+cap*k≤cs.size) (hc:xs.length≤cap) (hm:cap≤maxLen) (hk:∀x∈xs,x.length=k)
   (hr:RVs C w xs.flatten ((cs.toList.drop off).take (xs.length*k)) f):RV C w (.sl .own k xs) (.slice (some ⟨b,off,none⟩) xs.length cap) (b::f)
 |shr (τ:Tag) (k:Nat) (xs:List (List AV)) (b off cap:Nat) (cs:Array Value) (e:TypeId) (fz:Nat×Nat) (ht:τ≠.own) (hz:C.zb b) (hi:τ=.imm→C.zt b)
   (hb:w.heap[b]?=some (.cells cs e fz)) (hs:off+xs.length*k≤cs.size) (hc:xs.length≤cap) (hk:∀x∈xs,x.length=k)
   (hr:RVs C w xs.flatten ((cs.toList.drop off).take (xs.length*k)) []):RV C w (.sl τ k xs) (.slice (some ⟨b,off,none⟩) xs.length cap) []
inductive RVs (C:Ctx) (w:World):List AV→List Value→List Nat→Prop
 |nil:RVs C w [] [] []
 |cons (a:AV) (v:Value) (f:List Nat) (l:List AV) (m:List Value) (g:List Nat) (h:RV C w a v f) (t:RVs C w l m g):RVs C w (a::l) (v::m) (f++g)
end
mutual
theorem RV.frame{C C':Ctx}{w w':World}(hC:C.Le C')(hz:∀b,C.zb b→w'.heap[b]?=w.heap[b]?):
  ∀{a:AV} {v:Value} {f:List Nat},RV C w a v f→(∀b,b∈f→w'.heap[b]?=w.heap[b]?)→RV C' w' a v f
 |_,_,_,.lit v h,_=>.lit v h
 |_,_,_,.dead v h,_=>.dead v h
 |_,_,_,.ptr o c h,_=>by rw[←hC.lam o h];exact .ptr o c (Qa5 h hC.nx)
 |_,_,_,.ref p ver k lo n a cap,_=>.ref p ver k lo n a cap
 |_,_,_,.adr p ver k i c v,_=>.adr p ver k i c v
 |_,_,_,.iadr k xs i c b off cs e fz z hb hs hk hr,_=>.iadr k xs i c b off cs e fz (hC.zb b z) (by rw[hz b z];exact hb) hs hk (RVs.frame hC hz hr zsz)
 |_,_,_,.clo name caps f fn cvs hf hn hr,_=>.clo name caps f fn cvs (by rw[hC.P];exact hf) hn (RVs.frame hC hz hr zsz)
 |_,_,_,.slNil τ k,_=>.slNil τ k
 |_,_,_,.shrE τ k a cap ht,_=>.shrE τ k a cap ht
 |_,_,_,.own k xs b off cap cs e f hb hs hc hm hk hr,h=>
  .own k xs b off cap cs e f (by rw[h b zsz];exact hb) hs hc hm hk (RVs.frame hC hz hr (fun b' hb'=>h b' (by simp[hb'])))
 |_,_,_,.shr τ k xs b off cap cs e fz ht z hi hb hs hc hk hr,_=>
  .shr τ k xs b off cap cs e fz ht (hC.zb b z) (fun e=>hC.zt b (hi e)) (by rw[hz b z];exact hb) hs hc hk (RVs.frame hC hz hr zsz)
theorem RVs.frame{C C':Ctx}{w w':World}(hC:C.Le C')(hz:∀b,C.zb b→w'.heap[b]?=w.heap[b]?):
  ∀{l:List AV} {m:List Value} {f:List Nat},RVs C w l m f→(∀b,b∈f→w'.heap[b]?=w.heap[b]?)→RVs C' w' l m f
 |_,_,_,.nil,_=>.nil
 |_,_,_,.cons a v f l m g h t,hb=>.cons a v f l m g (RV.frame hC hz h (fun b hf=>hb b (by simp[hf]))) (RVs.frame hC hz t (fun b hg=>hb b (by simp[hg])))
end
section
variable{C:Ctx}{w:World}
theorem RV.HX{a:AV}{v:Value}{f:List Nat}(h:RV C w a v f):v.oneCell'=true:=by
 cases h<;>first|assumption|rfl
theorem RVs.length:∀{l:List AV} {m:List Value} {f:List Nat},RVs C w l m f→l.length=m.length
 |_,_,_,.nil=>rfl
 |_,_,_,.cons _ _ _ _ _ _ _ t=>by simp[RVs.length t]
theorem RVs.append:∀{l:List AV} {m:List Value} {f:List Nat},RVs C w l m f→∀{l' m' f'},RVs C w l' m' f'→RVs C w (l++l') (m++m') (f++f')
 |_,_,_,.nil,_,_,_,h'=>h'
 |_,_,_,.cons a v f l m g h t,_,_,_,h'=>by
  rw[Qc4];exact .cons a v f _ _ _ h (RVs.append t h')
theorem RVs.split:∀(l:List AV) {l':List AV} {m:List Value} {f:List Nat},RVs C w (l++l') m f→
  ∃m1 m2 f1 f2,m=m1++m2∧f=f1++f2∧RVs C w l m1 f1∧RVs C w l' m2 f2
 |[],_,m,f,h=>⟨[],m,[],f,rfl,rfl,.nil,h⟩
 |a::l,_,_,_,.cons _ v f _ m g h t=>by
  obtain⟨m1,m2,f1,f2,rfl,rfl,h1,h2⟩:=RVs.split l t;exact⟨v::m1,m2,f++f1,f2,rfl,zsz,.cons a v f l m1 f1 h h1,h2⟩
theorem RVs.one{a:AV}{v:Value}{f:List Nat}(h:RV C w a v f):RVs C w [a] [v] f:=by
 have:=RVs.cons a v f [] [] [] h .nil
 grind
theorem RVs.BU{a:AV}{m:List Value}{f:List Nat}(h:RVs C w [a] m f):∃v,m=[v]∧RV C w a v f:=by
 cases h with
 |cons _ v f _ m g h t=>cases t<;>grind
theorem RVs.nth{l:List AV}{m:List Value}{f:List Nat}(h:RVs C w l m f){j:Nat}{a:AV}(hj:l[j]?=some a):
  ∃m1 v m2 f1 fa f2,m=m1++v::m2∧m1.length=j∧f=f1++(fa++f2)∧RVs C w (l.take j) m1 f1∧RV C w a v fa∧RVs C w (l.drop (j+1)) m2 f2:=by
 have hlt:j<l.length:=by
  grind
 have ha:l[j]=a:=zg
 have hl:l=l.take j++(a::l.drop (j+1)):=by grind [List.getElem_cons_drop,Qb9]
 rw[hl]at h;obtain⟨m1,m2,f1,f2,rfl,rfl,h1,h2⟩:=RVs.split _ h
 cases h2<;>grind [h1.length]
theorem modify_eq{α:Type}(f:α→α)(l:List α)(j:Nat)(a:α)(hj:l[j]?=some a):l.modify j f=l.take j++(f a::l.drop (j+1)):=by
 grind [Qc0,List.getElem?_eq_none,Qb7,List.modify_eq_take_cons_drop]
end
theorem EF{α:Type}(k:Nat):∀(xs:List (List α)),(∀x∈xs,x.length=k)→xs.flatten.length=xs.length*k
 |[],_=>zsz
 |x::xs,h=>by
  have:=EF k xs (fun y hy=>h y zg)
  grind
theorem Cr?{α:Type}(k:Nat):∀(xs:List (List α)),(∀x∈xs,x.length=k)→∀(i c:Nat) (y:α),(xs[i]?).bind (·[c]?)=some y→xs.flatten[i*k+c]?=some y∧c<k∧i<xs.length
 |[],_,i,c,y,hy=>zg
 |x::xs,h,0,c,y,hy=>by
  grind
 |x::xs,h,i+1,c,y,hy=>by
  have hx:=h x zsz
  obtain⟨h1,h2,h3⟩:=Cr? k xs (fun y hy=>h y (by simp[hy])) i c y (by simpa using hy)<;>grind
theorem OO{α:Type}(k:Nat)(g:α→α):∀(xs:List (List α)),(∀x∈xs,x.length=k)→∀(i c:Nat) (y:α),(xs[i]?).bind (·[c]?)=some y→
  (xs.modify i (·.modify c g)).flatten=xs.flatten.modify (i*k+c) g
 |[],_,i,c,y,hy=>zg
 |x::xs,h,0,c,y,hy=>by
  grind [modify_eq]
 |x::xs,h,i+1,c,y,hy=>by
  have hx:=h x zsz;have ih:=OO k g xs (fun y hy=>h y zg) i c y zg;obtain⟨h1,h2,h3⟩:=Cr? k xs (fun y hy=>h y zg) i c y zg;simp only[List.modify_succ_cons,Qb8];rw[ih]
  have e:(i+1)*k+c=x.length+(i*k+c):=zg
  rw[modify_eq g xs.flatten _ y h1,modify_eq g (x++xs.flatten) ((i+1)*k+c) y zg]
  rw[e,List.take_append,Qd8,Qc5 (l:=x) zm,Qa8 (by omega:x.length≤x.length+(i*k+c)+1)]<;>grind
theorem XN{α:Type}(k:Nat)(g:α→α)(xs:List (List α))(h:∀x∈xs,x.length=k)(i c:Nat):∀x∈xs.modify i (·.modify c g),x.length=k:=by
 grind [List.mem_iff_getElem?,Qe4,Qb1,Qa0,List.length_modify]
def DK(w:World):Value→List Stp→Option Value
 |v,[]=>some v
 |.slice (some ad) _ _,s::r=>(w.cell? ⟨ad.block,ad.off+s.i*s.k+s.c,none⟩).bind (DK w · r)
 |_,_=>none
def Z1(w:World):Value→List Stp→Option Addr
 |.slice (some ad) _ _,[s]=>some ⟨ad.block,ad.off+s.i*s.k+s.c,none⟩
 |.slice (some ad) _ _,s::r=>(w.cell? ⟨ad.block,ad.off+s.i*s.k+s.c,none⟩).bind (Z1 w · r)
 |_,_=>none
section
variable{C:Ctx}{w:World}
theorem Af{w:World}{b:Nat}{cs:Array Value}{e:TypeId}{fz:Nat×Nat}(h:w.heap[b]?=some (.cells cs e fz))(i:Nat):w.cell? ⟨b,i,none⟩=cs[i]?:=by
 simp[World.cell?,h]
theorem FX(cs:Array Value)(off n j:Nat)(v:Value)(h:((cs.toList.drop off).take n)[j]?=some v):cs[off+j]?=some v∧j<n:=by
 grind
theorem SK{k:Nat}{xs:List (List AV)}{v:Value}{f:List Nat}(h:RV C w (.sl .own k xs) v f){i c:Nat}{a:AV}(ha:(xs[i]?).bind (·[c]?)=some a):
  ∃b off cap cs e m1 u m2 f1 fa f2,v=.slice (some ⟨b,off,none⟩) xs.length cap∧f=b::(f1++(fa++f2))∧w.heap[b]?=some (.cells cs e (0,0))∧off+cap*k≤cs.size∧
   xs.length≤cap∧cap≤maxLen∧(∀x∈xs,x.length=k)∧(cs.toList.drop off).take (xs.length*k)=m1++u::m2∧m1.length=i*k+c∧cs[off+i*k+c]?=some u∧
   RVs C w (xs.flatten.take (i*k+c)) m1 f1∧RV C w a u fa∧RVs C w (xs.flatten.drop (i*k+c+1)) m2 f2:=by
 cases h with
 |slNil=>grind
 |shrE _ _ _ _ ht=>grind
 |shr _ _ _ _ _ _ _ _ _ ht=>grind
 |own k xs b off cap cs e f hb hs hc hm hk hr=>
  obtain⟨h1,h2,h3⟩:=Cr? k xs hk i c a ha;obtain⟨m1,u,m2,f1,fa,f2,hm1,hl,rfl,r1,ra,r2⟩:=hr.nth h1
  have hu:((cs.toList.drop off).take (xs.length*k))[i*k+c]?=some u:=by
   grind
  grind
theorem XZ{k:Nat}{xs:List (List AV)}{b off cap:Nat}{cs:Array Value}{e:TypeId}{m1 m2:List Value}{u:Value}{f1 fa f2:List Nat}{i c:Nat}{a:AV}(g:AV→AV)
  (ha:(xs[i]?).bind (·[c]?)=some a) (hb:w.heap[b]?=some (.cells cs e (0,0))) (hs:off+cap*k≤cs.size) (hc:xs.length≤cap) (hm:cap≤maxLen) (hk:∀x∈xs,x.length=k)
  (hw:(cs.toList.drop off).take (xs.length*k)=m1++u::m2) (r1:RVs C w (xs.flatten.take (i*k+c)) m1 f1) (ra:RV C w (g a) u fa) (r2:RVs C w (xs.flatten.drop (i*k+c+1)) m2 f2):
  RV C w (.sl .own k (xs.modify i (·.modify c g))) (.slice (some ⟨b,off,none⟩) xs.length cap) (b::(f1++(fa++f2))):=by
 have hx:=(Cr? k xs hk i c a ha).1;have hlen:(xs.modify i (·.modify c g)).length=xs.length:=List.length_modify _ _ _
 have:=RV.own (C:=C) (w:=w) k (xs.modify i (·.modify c g)) b off cap cs e (f1++(fa++f2)) hb hs zg hm (XN k g xs hk i c) (by
  rw[hlen,hw,OO k g xs hk i c a ha,modify_eq g _ _ a hx]
  exact r1.append (RVs.cons _ _ _ _ _ _ ra r2))
 grind
theorem RV.lens:∀(p:List Stp) {a:AV} {v:Value} {f:List Nat} {b:AV},RV C w a v f→a.at p=some b→
  ∃u f1 fb f2,DK w v p=some u∧RV C w b u fb∧f=f1++(fb++f2)∧∀b' fb',RV C w b' u fb'→RV C w (a.put p b') v (f1++(fb'++f2))
 |[],a,v,f,b,h,hp=>by
  simp only[AV.at,Qa0]at hp;subst hp;exact⟨v,[],f,[],rfl,h,zsz,fun b' fb' h'=>by grind [AV.put]⟩
 |s::r,a,v,f,b,h,hp=>by
  match a,h,hp with
  |.sl .own k xs,h,hp=>
   simp only[AV.at]at hp;split at hp
   case isFalse=>cases hp
   rename_i hk
   cases ha:(xs[s.i]?).bind (·[s.c]?)with
   |none=>grind
   |some a1=>
    rw[ha]at hp;obtain⟨bk,off,cap,cs,e,m1,u,m2,f1,fa,f2,rfl,rfl,hb,hs,hc,hm,hkk,hw,hl,hcu,r1,ra,r2⟩:=SK h ha;obtain⟨u',g1,fb,g2,hcn,hrb,rfl,hput⟩:=RV.lens r ra (by trivial);refine⟨u',bk::(f1++g1),fb,g2++f2,?_,hrb,zsz,?_⟩
    ·grind [DK,Af]
    ·intro b' fb' h';have hq:=XZ (g:=(·.put r b')) ha hb hs hc hm hkk hw r1 (hput b' fb' h') r2
     grind [AV.put]
  |.lit _,_,hp=>trivial
  |.sl .imm _ _,_,hp=>trivial
  |.sl .brw _ _,_,hp=>trivial
  |.ptr ..,_,hp=>trivial
  |.ref ..,_,hp=>trivial
  |.adr ..,_,hp=>trivial
  |.iadr ..,_,hp=>trivial
  |.clo ..,_,hp=>trivial
  |.dead,_,hp=>trivial
theorem AgL(cs:Array Value)(off n j:Nat)(v:Value):(((cs.setIfInBounds (off+j) v).toList.drop off).take n)=((cs.toList.drop off).take n).set j v:=by
 apply Qb4<;>grind
theorem Rg{α:Type}(m1 m2:List α)(u v:α):(m1++u::m2).set m1.length v=m1++v::m2:=by
 grind
theorem FV(w:World)(a:Addr)(v:Value)(x:Nat)(h:x≠a.block):(w.setCell a v).heap[x]?=w.heap[x]?:=heap_setCell_other w a x v h
theorem EX:∀(p:List Stp) {a:AV} {v:Value} {f:List Nat} {w':World} {k:Nat} {xs:List (List AV)},RV C w a v f→a.at p=some (.sl .own k xs)→
  (∀x,x∈f→w'.heap[x]?=w.heap[x]?)→DK w' v p=DK w v p
 |[],_,_,_,_,_,_,_,_,_=>by rfl
 |s::r,a,v,f,w',k',xs',h,hp,hf=>by
  match a,h,hp with
  |.sl .own k xs,h,hp=>
   simp only[AV.at]at hp;split at hp
   case isFalse=>cases hp
   rename_i hk
   cases ha:(xs[s.i]?).bind (·[s.c]?)with
   |none=>grind
   |some a1=>
    rw[ha]at hp;obtain⟨bk,off,cap,cs,e,m1,u,m2,f1,fa,f2,rfl,rfl,hb,hs,hc,hm,hkk,hw,hl,hcu,r1,ra,r2⟩:=SK h ha
    have hb':w'.heap[bk]?=some (.cells cs e (0,0)):=zg
    simp only[DK];rw[Af hb,Af hb',hk,hcu];exact EX r ra (by trivial) (fun x hx=>hf x zg)
  |.lit _,_,hp=>trivial
  |.sl .imm _ _,_,hp=>trivial
  |.sl .brw _ _,_,hp=>trivial
  |.ptr ..,_,hp=>trivial
  |.ref ..,_,hp=>trivial
  |.adr ..,_,hp=>trivial
  |.iadr ..,_,hp=>trivial
  |.clo ..,_,hp=>trivial
  |.dead,_,hp=>trivial
def Aside(p q:List Stp):Prop:=¬∃r,q=p++r
theorem AfM{xs:List AV}{cs:Array Value}{off n si ti:Nat}{m1 m2:List Value}{u:Value}{f1 f2:List Nat}{a2:AV}
  (hw:(cs.toList.drop off).take n=m1++u::m2) (hl:m1.length=si) (r1:RVs C w (xs.take si) m1 f1) (r2:RVs C w (xs.drop (si+1)) m2 f2) (hne:ti≠si) (hat:xs[ti]?=some a2):
  ∃u2 g,cs[off+ti]?=some u2∧RV C w a2 u2 g∧∀x∈g,x∈f1∨x∈f2:=by
 rcases Qc0 ti si with hlt|hge
 ·have h1:(xs.take si)[ti]?=some a2:=by grind
  obtain⟨n1,v,n2,g1,ga,g2,rfl,hn,rfl,_,ra,_⟩:=r1.nth h1
  refine⟨v,ga,(FX cs off n ti v ?_).1,ra,fun x hx=>.inl (by simp[hx])⟩<;>grind
 ·have h1:(xs.drop (si+1))[ti -si -1]?=some a2:=by grind
  obtain⟨n1,v,n2,g1,ga,g2,rfl,hn,rfl,_,ra,_⟩:=r2.nth h1
  refine⟨v,ga,(FX cs off n ti v ?_).1,ra,fun x hx=>.inr (by simp[hx])⟩<;>grind
theorem RV.Ahj:∀(p:List Stp) {a:AV} {v:Value} {f:List Nat} {b:AV},p≠[]→RV C w a v f→a.at p=some b→
  ∃loc u f1 fb f2 cs e,Z1 w v p=some loc∧loc.spot=none∧w.cell? loc=some u∧w.heap[loc.block]?=some (.cells cs e (0,0))∧RV C w b u fb∧f=f1++(fb++f2)∧loc.block∈f1∧
   (f.Nodup→(∀x,C.zb x→x∉f)→∀b' v' fb',RV C w b' v' fb'→loc.block∉fb'→
    RV C (w.setCell loc v') (a.put p b') v (f1++(fb'++f2))∧
    ∀q k xs,Aside p q→a.at q=some (.sl .own k xs)→DK (w.setCell loc v') v q=DK w v q)
 |[],_,_,_,_,hne,_,_=>absurd rfl hne
 |s::r,a,v,f,b,_,h,hp=>by
  match a,h,hp with
  |.sl .own k xs,h,hp=>
   simp only[AV.at]at hp;split at hp
   case isFalse=>cases hp
   rename_i hk
   cases ha:(xs[s.i]?).bind (·[s.c]?)with
   |none=>grind
   |some a1=>
    rw[ha]at hp;obtain⟨bk,off,cap,cs,e,m1,u,m2,f1,fa,f2,rfl,rfl,hb,hs,hc,hm,hkk,hw,hl,hcu,r1,ra,r2⟩:=SK h ha
    match r,hp with
    |[],hp=>
     simp only[AV.at,Qa1,Qa0]at hp;subst hp;refine⟨⟨bk,off+s.i*s.k+s.c,none⟩,u,bk::f1,fa,f2,cs,e,rfl,rfl,?_,hb,ra,zsz,zsz,?_⟩
     ·grind [Af]
     ·intro hnd hz b' v' fb' hb' hnb;rw[hk]
      have hother:∀x,x≠bk→(w.setCell ⟨bk,off+s.i*k+s.c,none⟩ v').heap[x]?=w.heap[x]?:=fun x hx=>FV w _ v' x hx
      have hzb:∀x,C.zb x→(w.setCell ⟨bk,off+s.i*k+s.c,none⟩ v').heap[x]?=w.heap[x]?:=fun x hx=>hother x (fun e=>hz x hx (by simp[e]))
      have hnd':=List.nodup_cons.1 hnd
      have fr:∀x,x∈f1∨x∈f2→x≠bk:=fun x hx e=>hnd'.1 zg
      have hbn:(w.setCell ⟨bk,off+s.i*k+s.c,none⟩ v').heap[bk]?=some (.cells (cs.setIfInBounds (off+s.i*k+s.c) v') e (0,0)):=heap_setCell_same w bk _ cs e v' hb;refine⟨?_,?_⟩
      ·have hq:=XZ (C:=C) (w:=w.setCell ⟨bk,off+s.i*k+s.c,none⟩ v') (g:=fun _=>b') (u:=v') (fa:=fb') (m1:=m1) (m2:=m2) ha hbn (by rw[Qd9];exact hs) hc hm hkk
        (by rw[Qc6,AgL,hw,←hl,Rg])
        (r1.frame (Ctx.Le.refl C) hzb (fun x hx=>hother x (fr x (.inl hx))))
        (hb'.frame (Ctx.Le.refl C) hzb (fun x hx=>hother x (fun e=>hnb (e▸hx))))
        (r2.frame (Ctx.Le.refl C) hzb (fun x hx=>hother x (fr x (.inr hx))))
       simp_all [AV.put]
      ·intro q k' xs' hq hat
       match q,hat with
       |[],_=>rfl
       |t::q',hat=>
        simp only[AV.at]at hat;split at hat
        case isFalse=>grind
        rename_i htk
        cases hat1:(xs[t.i]?).bind (·[t.c]?)with
        |none=>grind
        |some a2=>
         rw[hat1]at hat
         have hij:off+t.i*k+t.c≠off+s.i*k+s.c:=by
          intro e;obtain⟨h1,h2,_⟩:=Cr? k xs hkk t.i t.c a2 hat1;obtain⟨h3,h4,_⟩:=Cr? k xs hkk s.i s.c a1 ha
          have e':t.i*k+t.c=s.i*k+s.c:=zm
          have ei:t.i=s.i:=by
           have hkpos:0<k:=zm
           have x1:(t.i*k+t.c)/k=t.i:=by grind [Qd0,Qd1,Qc7]
           have x2:(s.i*k+s.c)/k=s.i:=by grind [Qd0,Qd1,Qc7]
           grind
          have ec:t.c=s.c:=zg
          refine hq ⟨q',?_⟩
          have:t=s:=by cases t;cases s;simp_all
          grind
         obtain⟨bk2,off2,cap2,cs2,e2,n1,u2,n2,g1,ga,g2,hveq,hfeq,hb2,hs2,_,_,_,hw2,hl2,hcu2,q1,qa,q2⟩:=SK h hat1;simp only[Value.slice.injEq,Qa0,Addr.mk.injEq]at hveq;obtain⟨⟨rfl,rfl,_⟩,_,rfl⟩:=hveq
         obtain rfl:cs=cs2:=zg
         simp only[DK];rw[Af hbn,Af hb,htk];have hset:(cs.setIfInBounds (off+s.i*k+s.c) v')[off+t.i*k+t.c]?=cs[off+t.i*k+t.c]?:=Qc9 zm;rw[hset,hcu2];simp only[Qa1]
         have hsub:∀x,x∈ga→x≠bk:=by
          grind
         exact EX q' qa (by trivial) (fun x hx=>hother x (hsub x hx))
    |s'::r',hp=>
     obtain⟨loc,u',g1,fb,g2,cs',e',hloc,hspot,hcell,hbl,hrb,rfl,hin,hput⟩:=RV.Ahj (s'::r') zsz ra (by trivial)
     have hcu':w.cell? ⟨bk,off+s.i*s.k+s.c,none⟩=some u:=by grind [Af]
     refine⟨loc,u',bk::(f1++g1),fb,g2++f2,cs',e',?_,hspot,hcell,hbl,hrb,zsz,zg,?_⟩
     ·grind [Z1]
     ·intro hnd hz b' v' fb' hb' hnb;have hnd':=List.nodup_cons.1 hnd;have hndi:(f1++(g1++(fb++g2)++f2)).Nodup:=hnd'.2;have hnda:=(List.nodup_append.1 (List.nodup_append.1 hndi).2.1).1
      have hne:loc.block≠bk:=fun e=>hnd'.1 zg
      have fr:∀x,x∈f1∨x∈f2→x≠loc.block:=by
       grind
      have hother:∀x,x≠loc.block→(w.setCell loc v').heap[x]?=w.heap[x]?:=fun x hx=>FV w loc v' x hx
      have hzb:∀x,C.zb x→(w.setCell loc v').heap[x]?=w.heap[x]?:=fun x hx=>hother x (fun e=>hz x hx zg)
      obtain⟨hput1,hput2⟩:=hput hnda (fun x hx hm=>hz x hx (by
       grind)) b' v' fb' hb' hnb
      have hbn:(w.setCell loc v').heap[bk]?=some (.cells cs e (0,0)):=zg
      refine⟨?_,?_⟩
      ·have hq:=XZ (C:=C) (w:=w.setCell loc v') (g:=(·.put (s'::r') b')) (u:=u) (m1:=m1) (m2:=m2) ha hbn hs hc hm hkk hw
        (r1.frame (Ctx.Le.refl C) hzb (fun x hx=>hother x (fr x (.inl hx)))) hput1
        (r2.frame (Ctx.Le.refl C) hzb (fun x hx=>hother x (fr x (.inr hx))))
       grind [AV.put]
      ·intro q k' xs' hq hat
       match q,hat with
       |[],_=>rfl
       |t::q',hat=>
        simp only[AV.at]at hat;split at hat
        case isFalse=>grind
        rename_i htk
        cases hat1:(xs[t.i]?).bind (·[t.c]?)with
        |none=>grind
        |some a2=>
         rw[hat1]at hat;simp only[DK]
         by_cases hts:t.i=s.i∧t.c=s.c
         ·obtain⟨hti,htc⟩:=hts;rw[hti,htc,ha]at hat1;cases hat1
          have et:t=s:=by cases t;cases s;simp_all
          rw[et,Af hbn,Af hb,hk,hcu];simp only[Qa1]
          refine hput2 q' k' xs' (fun⟨r2,hr2⟩=>hq ⟨r2,?_⟩) (by simpa using hat)<;>grind
         ·have hti:=(Cr? k xs hkk t.i t.c a2 hat1)
          have hsi:=(Cr? k xs hkk s.i s.c a1 ha)
          obtain⟨u2,ga,hcu2,qa,hsub⟩:=AfM hw hl r1 r2 (fun e=>hts (by
           obtain⟨_,h2,_⟩:=hti;obtain⟨_,h4,_⟩:=hsi
           have hkpos:0<k:=zm
           have x1:(t.i*k+t.c)/k=t.i:=by grind [Qd0,Qd1,Qc7]
           have x2:(s.i*k+s.c)/k=s.i:=by grind [Qd0,Qd1,Qc7]
           grind)) hti.1
          rw[Af hbn,Af hb,htk,show off+t.i*k+t.c=off+(t.i*k+t.c)from zm,hcu2];simp only[Qa1];exact EX q' qa (by trivial) (fun x hx=>hother x (fr x (hsub x hx)))
  |.lit _,_,hp=>trivial
  |.sl .imm _ _,_,hp=>trivial
  |.sl .brw _ _,_,hp=>trivial
  |.ptr ..,_,hp=>trivial
  |.ref ..,_,hp=>trivial
  |.adr ..,_,hp=>trivial
  |.iadr ..,_,hp=>trivial
  |.clo ..,_,hp=>trivial
  |.dead,_,hp=>trivial
end
end Go.VS
namespace Go.VS
inductive Ky
 |s (t:Nat)
 |o (o:Nat)
 |h (i:Nat)
 deriving DecidableEq
structure Env where
 P:Pg
 w0:World
 f0:Nat→Prop
 i0:Nat→Prop
 nt:Nat
 n0:Nat
 l0:Nat→Nat
 lw:World
def AhO:List (String×(IntKind×List Int)):=[("internal/strconv.uint64pow10",(.u64,Lib.pow10Tab))]
structure NN(P:Program)(W:World):Prop where
 tab:∀e∈AhO,(P.globalNamed e.1).isSome=true→Lib.TabIs P W e.1 e.2.1 e.2.2
 ml:∀g,P.globalNamed "internal/bytealg.MaxLen" =some g→∃m,W.cell? ⟨g,0,none⟩=some (.int .i64 m)
theorem NN.of{P:Program}{W w:World}(h:NN P W)(he:∀b,b<W.heap.size→w.heap[b]?=W.heap[b]?):NN P w:=by
 refine⟨?_,?_⟩
 ·intro e hm hs;have:=h.tab e hm hs;unfold Lib.TabIs World.var? at this⊢
  cases hg:P.globalNamed e.1<;>grind
 ·intro g hg
  obtain⟨m,hm⟩:=h.ml g hg<;>grind [World.cell?]
structure I0(E:Env):Prop where
 own:∀b,E.i0 b→b<E.w0.heap.size∧¬E.f0 b
 lt:∀b,b<E.lw.heap.size→b<E.w0.heap.size∧¬E.f0 b
 eq:∀b,b<E.lw.heap.size→E.w0.heap[b]?=E.lw.heap[b]?
 good:NN E.P E.lw
def ctx(E:Env)(lam:Nat→Nat)(z:Nat→Prop)(nx:Nat):Ctx:=⟨E.P,lam,nx,fun b=>E.i0 b∨z b,fun b=>(b<E.w0.heap.size∧¬E.f0 b)∨z b⟩
def upk(fp:Ky→List Nat)(κ:Ky)(f:List Nat):Ky→List Nat:=fun κ'=>if κ'=κ then f else fp κ'
@[simp] theorem FW(fp:Ky→List Nat)(κ:Ky)(f:List Nat):upk fp κ f κ=f:=by simp[upk]
theorem BA(fp:Ky→List Nat){κ κ':Ky}(f:List Nat)(h:κ'≠κ):upk fp κ f κ'=fp κ':=by simp[upk,h]
def RSV(C:Ctx)(w:World):SV→Value→List Nat→Prop
 |.one a,v,f=>RV C w a v f
 |.agg l,v,f=>∃cs,v=.agg cs∧RVs C w l cs.toList f
def Ib(C:Ctx)(w:World):List SV→List Value→List Nat→Prop
 |[],[],f=>f=[]
 |s::l,v::m,f=>∃f1 f2,f=f1++f2∧RSV C w s v f1∧Ib C w l m f2
 |_,_,_=>False
def RTV(C:Ctx)(w:World):TV→Value→List Nat→Prop
 |.val g s,v,f=>(g=true→RSV C w s v f)∧(g=false→v=undef∧f=[])
 |.tup l,v,f=>∃vs,v=.tuple vs∧Ib C w l vs.toList f
 |.dead,_,f=>f=[]
theorem RSV.frame{C C':Ctx}{w w':World}(hC:C.Le C')(hz:∀b,C.zb b→w'.heap[b]?=w.heap[b]?){s:SV}{v:Value}{f:List Nat}(h:RSV C w s v f)
  (hf:∀b,b∈f→w'.heap[b]?=w.heap[b]?):RSV C' w' s v f:=by
 cases s with
 |one a=>exact RV.frame hC hz h hf
 |agg l=>obtain⟨cs,e,h⟩:=h;exact⟨cs,e,RVs.frame hC hz h hf⟩
theorem Ib.frame{C C':Ctx}{w w':World}(hC:C.Le C')(hz:∀b,C.zb b→w'.heap[b]?=w.heap[b]?):∀{l:List SV} {m:List Value} {f:List Nat},Ib C w l m f→
  (∀b,b∈f→w'.heap[b]?=w.heap[b]?)→Ib C' w' l m f
 |[],[],_,h,_=>h
 |s::l,v::m,f,h,hf=>by
  obtain⟨f1,f2,rfl,h1,h2⟩:=h;exact⟨f1,f2,rfl,h1.frame hC hz (fun b hb=>hf b zg),Ib.frame hC hz h2 (fun b hb=>hf b zg)⟩
theorem RTV.frame{C C':Ctx}{w w':World}(hC:C.Le C')(hz:∀b,C.zb b→w'.heap[b]?=w.heap[b]?){x:TV}{v:Value}{f:List Nat}(h:RTV C w x v f)
  (hf:∀b,b∈f→w'.heap[b]?=w.heap[b]?):RTV C' w' x v f:=by
 cases x with
 |val g s=>exact⟨fun hg=>(h.1 hg).frame hC hz hf,h.2⟩
 |tup l=>obtain⟨vs,e,h⟩:=h;exact⟨vs,e,h.frame hC hz hf⟩
 |dead=>exact h
abbrev Hands:=Nat→List AV×List Value
def Ao:Hands:=fun _=>([],[])
structure AmB(E:Env)(z:Nat→Prop)(fp:Ky→List Nat)(w:World):Prop where
 nod:∀κ,(fp κ).Nodup
 dis:∀κ κ' b,κ≠κ'→b∈fp κ→b∉fp κ'
 ok:∀κ b,b∈fp κ→b<w.heap.size∧(E.f0 b∨E.w0.heap.size≤b)∧¬z b
def AQ(C:Ctx)(hd:Hands)(st:St)(tm:Array Value)(w:World):Ky→List Nat→Prop
 |.s t,f=>RTV C w (st.sl t) (tm.getD t undef) f
 |.h i,f=>RVs C w (hd i).1 (hd i).2 f
 |.o o,f=>∀l,st.hp.get o=some l→o<C.nx∧∃cs e f',w.heap[C.lam o]?=some (.cells cs e (0,0))∧RVs C w l cs.toList f'∧f=C.lam o::f'
structure Ax(E:Env)(lam:Nat→Nat)(z:Nat→Prop)(fp:Ky→List Nat)(hd:Hands)(st:St)(tm:Array Value)(w:World):Prop where
 keys:∀κ,AQ (ctx E lam z st.hp.next) hd st tm w κ (fp κ)
 fps:AmB E z fp w
 z:∀b,z b→b<w.heap.size∧(E.f0 b∨E.w0.heap.size≤b)
 frame:∀b,b<E.w0.heap.size→¬E.f0 b→w.heap[b]?=E.w0.heap[b]?
 os:w.os=E.w0.os
 tape:w.tape=E.w0.tape
 output:w.output=E.w0.output
 size:E.w0.heap.size≤w.heap.size
 tsz:tm.size=E.nt
 base:E.n0≤st.hp.next∧∀o,o<E.n0→lam o=E.l0 o
 i0:I0 E
theorem AQ.frame{C C':Ctx}{w w':World}{hd:Hands}{st:St}{tm:Array Value}(hC:C.Le C')(hz:∀b,C.zb b→w'.heap[b]?=w.heap[b]?){κ:Ky}{f:List Nat}
  (h:AQ C hd st tm w κ f) (hf:∀b,b∈f→w'.heap[b]?=w.heap[b]?):AQ C' hd st tm w' κ f:=by
 cases κ with
 |s t=>exact RTV.frame hC hz h hf
 |h i=>exact RVs.frame hC hz h hf
 |o o=>
  intro l hl;obtain⟨h1,cs,e,f',h2,h3,h4⟩:=h l hl;refine⟨Qa5 h1 hC.nx,cs,e,f',?_,RVs.frame hC hz h3 (fun b hb=>hf b zg),by rw[hC.lam o h1];exact h4⟩
  rw[hC.lam o h1,hf _ zg];exact h2
structure Moves(may:Nat→Prop)(w w':World):Prop where
 os:w'.os=w.os
 tape:w'.tape=w.tape
 output:w'.output=w.output
 size:w.heap.size≤w'.heap.size
 block:∀b,b<w.heap.size→¬may b→w'.heap[b]?=w.heap[b]?
theorem Moves.refl(may:Nat→Prop)(w:World):Moves may w w:=⟨rfl,rfl,rfl,Qa7 _,fun _ _ _=>rfl⟩
theorem Moves.drew(may:Nat→Prop)(w:World):Moves may w w.drew:=⟨rfl,rfl,rfl,Qa7 _,fun _ _ _=>rfl⟩
theorem Moves.alloc(may:Nat→Prop)(w:World)(o:Obj):Moves may w (w.alloc o):=⟨rfl,rfl,rfl,zsz,fun b hb _=>heap_alloc_old w o hb⟩
theorem Moves.trans{may:Nat→Prop}{a b c:World}(h:Moves may a b)(k:Moves may b c):Moves may a c:=
 ⟨k.os.trans h.os,k.tape.trans h.tape,k.output.trans h.output,Qd2 h.size k.size,fun x hx hm=>(k.block x (Qa5 hx h.size) hm).trans (h.block x hx hm)⟩
theorem Moves.mono{may may':Nat→Prop}{a b:World}(h:Moves may a b)(hm:∀x,may x→may' x):Moves may' a b:=
 ⟨h.os,h.tape,h.output,h.size,fun x hx hn=>h.block x hx (fun hy=>hn (hm x hy))⟩
section
variable{E:Env}{lam:Nat→Nat}{z:Nat→Prop}{fp:Ky→List Nat}{hd:Hands}{st:St}{tm:Array Value}{w:World}
theorem AmB.two(F:AmB E z fp w)(hsz:E.w0.heap.size≤w.heap.size)(hz:∀b,z b→b<w.heap.size){w':World}(hw:w.heap.size≤w'.heap.size)(κ1 κ2:Ky)(fp':Ky→List Nat)
  (hsame:∀κ,κ≠κ1→κ≠κ2→fp' κ=fp κ) (n1:(fp' κ1).Nodup) (n2:(fp' κ2).Nodup) (d12:κ1≠κ2→∀b,b∈fp' κ1→b∉fp' κ2)
  (from1:∀b,b∈fp' κ1→b∈fp κ1∨b∈fp κ2∨(w.heap.size≤b∧b<w'.heap.size)) (from2:∀b,b∈fp' κ2→b∈fp κ1∨b∈fp κ2∨(w.heap.size≤b∧b<w'.heap.size)):
  AmB E z fp' w':=by
 have out:∀κ,κ≠κ1→κ≠κ2→∀b,(b∈fp' κ1∨b∈fp' κ2)→b∉fp κ:=by
  intro κ h1 h2 b hb hk
  have:b∈fp κ1∨b∈fp κ2∨(w.heap.size≤b∧b<w'.heap.size):=by
   grind
  rcases this with h|h|h
  ·exact F.dis κ κ1 b h1 hk h
  ·exact F.dis κ κ2 b h2 hk h
  ·have:=(F.ok κ b hk).1;omega
 have okn:∀b,(b∈fp κ1∨b∈fp κ2∨(w.heap.size≤b∧b<w'.heap.size))→b<w'.heap.size∧(E.f0 b∨E.w0.heap.size≤b)∧¬z b:=by
  rintro b (h|h|h)
  ·obtain⟨x,y⟩:=F.ok _ b h<;>grind
  ·obtain⟨x,y⟩:=F.ok _ b h<;>grind
  grind
 refine⟨?_,?_,?_⟩
 ·intro κ
  by_cases h1:κ=κ1
  ·grind
  ·by_cases h2:κ=κ2
   ·grind
   ·rw[hsame κ h1 h2];exact F.nod κ
 ·intro κ κ' b hne hb hb'
  by_cases h1:κ=κ1
  ·subst h1
   by_cases h2:κ'=κ2<;>grind
  ·by_cases h2:κ=κ2
   ·subst h2
    by_cases h3:κ'=κ1<;>grind
   ·rw[hsame κ h1 h2]at hb
    by_cases h3:κ'=κ1
    ·grind
    ·by_cases h4:κ'=κ2
     ·grind
     ·rw[hsame κ' h3 h4]at hb';exact F.dis κ κ' b hne hb hb'
 ·intro κ b hb
  by_cases h1:κ=κ1
  ·grind
  ·by_cases h2:κ=κ2
   ·grind
   ·rw[hsame κ h1 h2]at hb
    obtain⟨x,y⟩:=F.ok κ b hb<;>grind
theorem Ax.Ado(R:Ax E lam z fp hd st tm w){κ:Ky}{b:Nat}(h:b∈fp κ){nx:Nat}:¬(ctx E lam z nx).zb b:=by
 obtain⟨_,h2,h3⟩:=R.fps.ok κ b h;rintro(⟨h4,h5⟩|h4)
 ·grind
 grind
theorem Ax.AgP(R:Ax E lam z fp hd st tm w){b:Nat}{nx:Nat}(h:(ctx E lam z nx).zb b):b<w.heap.size:=by
 rcases h with⟨h,_⟩|h
 ·grind [R.size]
 ·exact(R.z b h).1
theorem Ax.AeB(R:Ax E lam z fp hd st tm w){κ:Ky}{w':World}(hm:Moves (·∈fp κ) w w'){nx:Nat}:∀b,(ctx E lam z nx).zb b→w'.heap[b]?=w.heap[b]?:=
 fun b hb=>hm.block b (R.AgP hb) (fun hmem=>R.Ado hmem hb)
theorem Ax.AoV(R:Ax E lam z fp hd st tm w){κ:Ky}{w':World}(hm:Moves (·∈fp κ) w w'){κ':Ky}(h:κ'≠κ):∀b,b∈fp κ'→w'.heap[b]?=w.heap[b]?:=
 fun b hb=>hm.block b (R.fps.ok κ' b hb).1 (fun hmem=>R.fps.dis κ' κ b h hb hmem)
theorem Ax.Xf(R:Ax E lam z fp hd st tm w){κ:Ky}{w':World}(hm:Moves (·∈fp κ) w w'):∀b,b<E.w0.heap.size→¬E.f0 b→w'.heap[b]?=E.w0.heap[b]?:=by
 intro b hb hf0
 rw[hm.block b (Qa5 hb R.size) (fun hmem=>by
  rcases(R.fps.ok _ b hmem).2.1 with h1|h1<;>grind)]
 exact R.frame b hb hf0
theorem Ax.key(R:Ax E lam z fp hd st tm w)(κ:Ky){w':World}(hm:Moves (·∈fp κ) w w'){hd':Hands}{st':St}{tm':Array Value}(hnx:st'.hp.next=st.hp.next)(ht:tm'.size=tm.size)
  (same:∀κ',κ'≠κ→∀C u f,AQ C hd st tm u κ' f→AQ C hd' st' tm' u κ' f) {f:List Nat} (h:AQ (ctx E lam z st.hp.next) hd' st' tm' w' κ f) (hn:f.Nodup)
  (hf:∀b,b∈f→b∈fp κ∨(w.heap.size≤b∧b<w'.heap.size)):Ax E lam z (upk fp κ f) hd' st' tm' w':=by
 have hz:=R.AeB hm (nx:=st.hp.next);have hC:=Ctx.Le.refl (ctx E lam z st.hp.next)
 refine⟨?_,?_,fun b hb=>⟨Qa5 (R.z b hb).1 hm.size,(R.z b hb).2⟩,R.Xf hm,hm.os.trans R.os,hm.tape.trans R.tape,hm.output.trans R.output,
  Qd2 R.size hm.size,ht.trans R.tsz,by grind [R.base],R.i0⟩
 ·intro κ';rw[hnx]
  by_cases hk:κ'=κ
  ·simp_all
  ·rw[BA _ _ hk];exact same κ' hk _ _ _ ((R.keys κ').frame hC hz (R.AoV hm hk))
 ·refine R.fps.two R.size (fun b h=>(R.z b h).1) hm.size κ κ _ (fun κ' h1 _=>BA fp f h1) (by simpa using hn) (by simpa using hn) (fun h=>absurd rfl h) ?_ ?_<;>simp_all
theorem Ax.pass(R:Ax E lam z fp hd st tm w)(κ κ1:Ky)(hne:κ1≠κ){w':World}(hm:Moves (·∈fp κ) w w'){hd':Hands}{st':St}{tm':Array Value}(hnx:st'.hp.next=st.hp.next)(ht:tm'.size=tm.size)
  (same:∀κ',κ'≠κ→κ'≠κ1→∀C u f,AQ C hd st tm u κ' f→AQ C hd' st' tm' u κ' f) {f f1:List Nat} (h:AQ (ctx E lam z st.hp.next) hd' st' tm' w' κ f)
  (h1:AQ (ctx E lam z st.hp.next) hd' st' tm' w' κ1 f1) (hn:f.Nodup) (hn1:f1.Nodup) (hd1:∀b,b∈f→b∉f1)
  (hf:∀b,b∈f→b∈fp κ∨b∈fp κ1∨(w.heap.size≤b∧b<w'.heap.size)) (hf1:∀b,b∈f1→b∈fp κ∨b∈fp κ1∨(w.heap.size≤b∧b<w'.heap.size)):
  Ax E lam z (upk (upk fp κ f) κ1 f1) hd' st' tm' w':=by
 have hz:=R.AeB hm (nx:=st.hp.next);have hC:=Ctx.Le.refl (ctx E lam z st.hp.next)
 refine⟨?_,?_,fun b hb=>⟨Qa5 (R.z b hb).1 hm.size,(R.z b hb).2⟩,R.Xf hm,hm.os.trans R.os,hm.tape.trans R.tape,hm.output.trans R.output,
  Qd2 R.size hm.size,ht.trans R.tsz,by grind [R.base],R.i0⟩
 ·intro κ';rw[hnx]
  by_cases hk1:κ'=κ1
  ·simp_all
  ·rw[BA _ _ hk1]
   by_cases hk:κ'=κ
   ·simp_all
   ·rw[BA _ _ hk];exact same κ' hk hk1 _ _ _ ((R.keys κ').frame hC hz (R.AoV hm hk))
 ·refine R.fps.two R.size (fun b h=>(R.z b h).1) hm.size κ κ1 _ (fun κ' h2 h3=>by grind [BA]) ?_ (by simp_all) ?_ ?_ ?_
  ·grind [BA,FW]
  ·grind [BA,FW]
  ·grind [BA,FW]
  simp_all
theorem Iy{hd hd':Hands}{st:St}{tm:Array Value}{i:Nat}(h:∀j,j≠i→hd' j=hd j){κ:Ky}(hk:κ≠.h i){C:Ctx}{u:World}{f:List Nat}(hK:AQ C hd st tm u κ f):AQ C hd' st tm u κ f:=by
 cases κ<;>grind [AQ]
theorem Ax.turn(R:Ax E lam z fp hd st tm w)(i:Nat){w':World}(hm:Moves (·∈fp (.h i)) w w'){l:List AV}{m:List Value}{f:List Nat}
  (h:RVs (ctx E lam z st.hp.next) w' l m f) (hn:f.Nodup) (hf:∀b,b∈f→b∈fp (.h i)∨(w.heap.size≤b∧b<w'.heap.size)):
  Ax E lam z (upk fp (.h i) f) (upd hd i (l,m)) st tm w':=
 R.key (.h i) hm rfl rfl (fun κ' hk C u f' hK=>Iy (fun j hj=>by simp[upd,hj]) hk hK) (by grind [AQ,upd]) hn hf
theorem Ax.grow(R:Ax E lam z fp hd st tm w){w':World}(hm:Moves (fun _=>False) w w'):Ax E lam z fp hd st tm w':=by
 have hb:∀b,b<w.heap.size→w'.heap[b]?=w.heap[b]?:=fun b h=>hm.block b h id
 refine⟨fun κ=>(R.keys κ).frame (Ctx.Le.refl _) (fun b h=>hb b (R.AgP h)) (fun b h=>hb b (R.fps.ok κ b h).1),⟨R.fps.nod,R.fps.dis,fun κ b h=>⟨Qa5 (R.fps.ok κ b h).1 hm.size,(R.fps.ok κ b h).2⟩⟩,
  fun b h=>⟨Qa5 (R.z b h).1 hm.size,(R.z b h).2⟩,fun b h hf=>(hb b (Qa5 h R.size)).trans (R.frame b h hf),hm.os.trans R.os,hm.tape.trans R.tape,hm.output.trans R.output,
  Qd2 R.size hm.size,R.tsz,R.base,R.i0⟩
theorem Ax.PR(R:Ax E lam z fp hd st tm w)(i t:Nat)(x:TV)(v:Value)(ht:t<E.nt)(h:RTV (ctx E lam z st.hp.next) w x v (fp (.h i)))(vs:Nat→Nat)(hv:Nat):
  Ax E lam z (upk (upk fp (.h i) []) (.s t) (fp (.h i))) (upd hd i ([],[])) ⟨upd st.sl t x,st.hp,vs,hv⟩ (tm.setIfInBounds t v) w:=by
 refine R.pass (hd':=upd hd i ([],[])) (st':=⟨upd st.sl t x,st.hp,vs,hv⟩) (tm':=tm.setIfInBounds t v) (.h i) (.s t) zsz (Moves.refl _ w) rfl Qd9 ?_ ?_ ?_ Qb6 (R.fps.nod _) (fun _ h=>nomatch h) (fun _ h=>nomatch h) (fun b hb=>.inl hb)
 ·intro κ' h1 h2 C u f hK
  cases κ' with
  |s t'=>
   have hj:t'≠t:=fun e=>h2 (by rw[e])
   have e:(tm.setIfInBounds t v).getD t' undef=tm.getD t' undef:=by
    simp only[Qb3]<;>grind
   grind [AQ,upd]
  |o o=>exact hK
  |h j=>
   grind [AQ,upd]
 ·simp only[AQ,upd,if_true];exact .nil
 simp_all [undef,R.tsz,AQ,upd]
end
end Go.VS
namespace Go.VS
def vcells:SV→Value→List Value
 |.one _,v=>[v]
 |.agg _,.agg cs=>cs.toList
 |.agg _,_=>[]
theorem K8(l m:List AV)(v:Value):vcells (.agg l) v=vcells (.agg m) v:=by cases v<;>rfl
theorem RSV.cells{C:Ctx}{w:World}{s:SV}{v:Value}{f:List Nat}(h:RSV C w s v f):RVs C w s.cells (vcells s v) f:=by
 cases s with
 |one a=>exact RVs.one h
 |agg l=>obtain⟨cs,rfl,h⟩:=h;exact h
def BE(st:St)(tm:Array Value)(w:World)(lam:Nat→Nat):Root→Option Value
 |.slot t j=>match st.sl t with
  |.val true s=>(vcells s (tm.getD t undef))[j]?
  |_=>none
 |.obj o c=>w.cell? ⟨lam o,c,none⟩
def conc(st:St)(tm:Array Value)(w:World)(lam:Nat→Nat)(p:Place):Option Value:=(BE st tm w lam p.root).bind (DK w · p.path)
def Root.key:Root→Ky
 |.slot t _=>.s t
 |.obj o _=>.o o
theorem JV{α:Type}(l:List α)(j:Nat)(a b:α)(h:l[j]?=some a):l.set j b=l.take j++(b::l.drop (j+1)):=by
 have hlt:j<l.length:=by
  grind
 rw[List.set_eq_take_append_cons_drop,if_pos hlt]
theorem SV.GL(s:SV)(j:Nat)(a b:AV)(h:s.cells[j]?=some a):(s.setCell j b).cells=s.cells.set j b:=by
 cases s with
 |one x=>
  cases j with
  |zero=>rfl
  |succ j=>rfl
 |agg l=>rfl
theorem RSV.setCell{C:Ctx}{w w':World}{s:SV}{v:Value}{f g:List Nat}(h:RSV C w s v f){j:Nat}{a b:AV}(hj:s.cells[j]?=some a)(hn:RVs C w' (s.cells.set j b) (vcells s v) g):
  RSV C w' (s.setCell j b) v g:=by
 cases s with
 |one x=>
  cases j with
  |zero=>obtain⟨u,hu,h'⟩:=RVs.BU (show RVs C w' [b] [v] g from hn);cases hu;exact h'
  |succ j=>trivial
 |agg l=>obtain⟨cs,rfl,h⟩:=h;exact⟨cs,rfl,hn⟩
theorem RVs.other{C:Ctx}{w:World}{xs:List AV}{m m1 m2:List Value}{u:Value}{f1 f2:List Nat}{si ti:Nat}{a2:AV}
  (hw:m=m1++u::m2) (hl:m1.length=si) (r1:RVs C w (xs.take si) m1 f1) (r2:RVs C w (xs.drop (si+1)) m2 f2) (hne:ti≠si) (hat:xs[ti]?=some a2):
  ∃u2 g,m[ti]?=some u2∧RV C w a2 u2 g∧∀x∈g,x∈f1∨x∈f2:=by
 rcases Qc0 ti si with hlt|hge
 ·have h1:(xs.take si)[ti]?=some a2:=by grind
  obtain⟨n1,v,n2,g1,ga,g2,rfl,hn,rfl,_,ra,_⟩:=r1.nth h1<;>grind
 ·have h1:(xs.drop (si+1))[ti -si -1]?=some a2:=by grind
  obtain⟨n1,v,n2,g1,ga,g2,rfl,hn,rfl,_,ra,_⟩:=r2.nth h1<;>grind
section
variable{E:Env}{lam:Nat→Nat}{z:Nat→Prop}{fp:Ky→List Nat}{hd:Hands}{st:St}{tm:Array Value}{w:World}
theorem St.Fk{t j:Nat}{a:AV}(h:st.root (.slot t j)=some a):∃s,st.sl t=.val true s∧s.cells[j]?=some a:=by
 simp only[St.root,TV.cell]at h<;>grind
theorem St.Fg{o c:Nat}{a:AV}(h:st.root (.obj o c)=some a):∃l,st.hp.get o=some l∧l[c]?=some a:=by
 simp only[St.root]at h
 cases hg:st.hp.get o<;>grind
theorem Ax.Pe(R:Ax E lam z fp hd st tm w){r:Root}{a:AV}(h:st.root r=some a):
  ∃v f1 fa f2,BE st tm w lam r=some v∧RV (ctx E lam z st.hp.next) w a v fa∧fp r.key=f1++(fa++f2)∧
   (∀w' a' fa',(∀x,(ctx E lam z st.hp.next).zb x→w'.heap[x]?=w.heap[x]?)→(∀x,x∈f1∨x∈f2→w'.heap[x]?=w.heap[x]?)→RV (ctx E lam z st.hp.next) w' a' v fa'→
    AQ (ctx E lam z st.hp.next) hd (st.Au r a') tm w' r.key (f1++(fa'++f2)))∧
   (∀o c,r=.obj o c→lam o∈f1)∧
   ∀r' a2,r'.key=r.key→r'≠r→st.root r'=some a2→∃v2 g,BE st tm w lam r'=some v2∧RV (ctx E lam z st.hp.next) w a2 v2 g∧∀x∈g,x∈f1∨x∈f2:=by
 cases r with
 |slot t j=>
  obtain⟨s,hs,hj⟩:=St.Fk h;have hr:=R.keys (.s t);simp only[AQ,hs]at hr;obtain⟨m1,v,m2,f1,fa,f2,hm,hl,hf,r1,ra,r2⟩:=(hr.1 rfl).cells.nth hj;refine⟨v,f1,fa,f2,?_,ra,hf,?_,(fun _ _ e=>nomatch e),?_⟩
  ·grind [BE]
  rotate_left
  ·intro r' a2 hk hne hr'
   cases r' with
   |obj o c=>trivial
   |slot t' j'=>
    obtain rfl:t'=t:=by grind [Root.key]
    have hjj:j'≠j:=fun e=>hne (by rw[e])
    obtain⟨s',hs',hj'⟩:=St.Fk hr';rw[hs]at hs'
    obtain rfl:s=s':=zg
    obtain⟨u2,g,h1,h2,h3⟩:=RVs.other hm hl r1 r2 hjj hj'<;>grind [BE]
  ·intro w' a' fa' hz hsame ha';simp only[AQ,Root.key,St.Au,upd,if_true,hs,TV.setCell];refine⟨fun _=>(hr.1 rfl).setCell hj ?_,fun hx=>(nomatch hx)⟩;rw[JV _ _ _ _ hj,hm];exact(r1.frame (Ctx.Le.refl _) hz (fun x hx=>hsame x (.inl hx))).append (RVs.cons _ _ _ _ _ _ ha' (r2.frame (Ctx.Le.refl _) hz (fun x hx=>hsame x (.inr hx))))
 |obj o c=>
  obtain⟨l,hg,hc⟩:=St.Fg h;obtain⟨h1,cs,e,f,h2,h3,h4⟩:=R.keys (.o o) l hg;obtain⟨m1,v,m2,f1,fa,f2,hm,hl,hf,r1,ra,r2⟩:=h3.nth hc;have h2':w.heap[lam o]?=some (.cells cs e (0,0)):=h2;refine⟨v,lam o::f1,fa,f2,?_,ra,by show fp (.o o)=_;rw[h4,hf];rfl,?_,(fun o' c' e=>zg),?_⟩
  ·simp only[BE];rw[Af h2',←Qc1,hm,Qc2 zm];grind
  rotate_left
  ·intro r' a2 hk hne hr'
   cases r' with
   |slot t j=>trivial
   |obj o' c'=>
    obtain rfl:o'=o:=by grind [Root.key]
    have hcc:c'≠c:=fun e=>hne (by rw[e])
    obtain⟨l',hg',hc'⟩:=St.Fg hr';rw[hg]at hg'
    obtain rfl:l=l':=zg
    obtain⟨u2,g,h1,h2,h3⟩:=RVs.other hm hl r1 r2 hcc hc'<;>grind [BE,Af]
  ·intro w' a' fa' hz hsame ha';simp only[AQ,Root.key,St.Au,hg];intro l' hl';simp only[Heap.set,upd,if_true,Qa0]at hl';subst hl';refine⟨h1,cs,e,f1++(fa'++f2),(hsame (lam o) zsz).trans h2',?_,rfl⟩;rw[JV _ _ _ _ hc,hm]
   exact(r1.frame (Ctx.Le.refl _) hz (fun x hx=>hsame x zg)).append (RVs.cons _ _ _ _ _ _ ha' (r2.frame (Ctx.Le.refl _) hz (fun x hx=>hsame x (.inr hx))))
theorem L9{r:Root}{a:AV}{κ:Ky}(hk:κ≠r.key){C:Ctx}{u:World}{f:List Nat}(h:AQ C hd st tm u κ f):AQ C hd (st.Au r a) tm u κ f:=by
 cases r with
 |slot t j=>
  cases κ with
  |s t'=>
   have:t'≠t:=fun e=>hk (by rw[e];rfl)
   simp_all [AQ,St.Au,upd]
  |o o=>exact h
  |h i=>exact h
 |obj o c=>
  simp only[St.Au]
  cases hg:st.hp.get o with
  |none=>exact h
  |some l=>
   cases κ with
   |s t=>exact h
   |h i=>exact h
   |o o'=>
    have:o'≠o:=fun e=>hk (by rw[e];rfl)
    simp_all [AQ,Heap.set,upd]
theorem HW(r:Root)(a:AV):(st.Au r a).hp.next=st.hp.next:=by
 cases r with
 |slot t j=>rfl
 |obj o c=>simp only[St.Au];split<;>rfl
theorem JR{α:Type}{a b c:List α}(h:(a++(b++c)).Nodup):(a++c).Nodup∧b.Nodup∧∀x∈b,x∉a++c:=by
 grind
theorem Ax.take(R:Ax E lam z fp hd st tm w)(i:Nat)(p:Place){b:AV}(h:st.at p=some b):
  ∃u fp',conc st tm w lam p=some u∧Ax E lam z fp' (upd hd i ([b],[u])) (st.putAt p .dead) tm w∧∀j,j≠i→fp' (.h j)=fp (.h j):=by
 simp only[St.at]at h
 cases ha:st.root p.root with
 |none=>grind
 |some a=>
  rw[ha]at h;simp only[Qa1]at h;obtain⟨v,f1,fa,f2,hv,ra,hf,hset,_,_⟩:=R.Pe ha;obtain⟨u,g1,fb,g2,hc,rb,hfa,hput⟩:=RV.lens p.path ra h;have hdead:=hset w _ _ (fun _ _=>rfl) (fun _ _=>rfl) (hput .dead [] (.dead u rb.HX))
  have hnd:((f1++g1)++(fb++(g2++f2))).Nodup:=by
   have:=R.fps.nod p.root.key
   grind
  obtain⟨n1,n2,n3⟩:=JR hnd
  have hkh:(Ky.h i)≠p.root.key:=by cases p.root<;>simp[Root.key]
  have hput':st.putAt p .dead=st.Au p.root (a.put p.path .dead):=by grind [St.putAt]
  refine⟨u,upk (upk fp p.root.key ((f1++g1)++(g2++f2))) (.h i) fb,by grind [conc],?_,
   fun j hj=>by rw[BA _ _ zg,BA _ _ (by cases p.root<;>simp[Root.key])]⟩
  rw[hput'];refine R.pass p.root.key (.h i) hkh (Moves.refl _ w) (HW _ _) rfl ?_ ?_ ?_ n1 n2 ?_ ?_ ?_
  ·grind [Iy,upd,L9]
  ·grind [Iy,upd]
  ·grind [AQ,upd,RVs.one]
  ·grind
  ·grind
  grind
theorem Ff{r r':Root}{a:AV}:BE (st.Au r a) tm w lam r'=BE st tm w lam r':=by
 cases r' with
 |obj o c=>rfl
 |slot t j=>
  cases r with
  |obj o c=>simp only[St.Au];split<;>rfl
  |slot t0 j0=>
   simp only[BE,St.Au,upd]
   by_cases h:t=t0
   ·subst h;simp only[if_true]
    cases hs:st.sl t with
    |val g s=>
     simp only[TV.setCell]
     cases g with
     |false=>rfl
     |true=>
      cases s with
      |one a=>cases j0<;>rfl
      |agg l=>grind [SV.setCell,K8]
    |tup l=>rfl
    |dead=>rfl
   grind
theorem IU{q:Place}{v:Value}(h:BE st tm w lam q.root=some v):conc st tm w lam q=DK w v q.path:=by simp[conc,h]
theorem IX{r:Root}{loc:Addr}{v':Value}(h:∀o c,r=.obj o c→loc≠⟨lam o,c,none⟩):BE st tm (w.setCell loc v') lam r=BE st tm w lam r:=by
 cases r with
 |slot t j=>rfl
 |obj o c=>exact World.cell?_setCell_other _ _ _ _ (h o c rfl)
theorem Ax.Ag2(R:Ax E lam z fp hd st tm w){κ:Ky}{loc:Addr}{v':Value}(hl:loc.block∈fp κ){r:Root}{a:AV}{q:Place}{k:Nat}{xs:List (List AV)}
  (hq:st.at q=some (.sl .own k xs)) (hne:q.root.key≠κ):conc (st.Au r a) tm (w.setCell loc v') lam q=conc st tm w lam q:=by
 simp only[St.at]at hq
 cases hr:st.root q.root with
 |none=>grind
 |some a2=>
  rw[hr]at hq;simp only[Qa1]at hq;obtain⟨v2,g1,ga,g2,h1,h2,h3,_,_,_⟩:=R.Pe hr
  have hnotin:∀x,x∈fp q.root.key→x≠loc.block:=fun x hx e=>R.fps.dis q.root.key κ x hne hx zg
  have h4:BE st tm (w.setCell loc v') lam q.root=some v2:=by
   grind [IX,St.Fg,ctx]
  rw[IU (v:=v2) (by grind [Ff]),IU h1];exact EX q.path h2 hq (fun x hx=>FV w loc v' x (hnotin x zg))
theorem Ax.U3(R:Ax E lam z fp hd st tm w)(i:Nat)(p:Place){b b':AV}{v':Value}(hh:hd i=([b'],[v']))(hat:st.at p=some b)(hmem:p.path≠[]):
  ∃loc u fp',(BE st tm w lam p.root).bind (Z1 w · p.path)=some loc∧loc.spot=none∧w.cell? loc=some u∧w.frozen? loc=false∧
   Ax E lam z fp' (upd hd i ([],[])) (st.putAt p b') tm (w.setCell loc v')∧(∀j,j≠i→fp' (.h j)=fp (.h j))∧
   ∀q k xs,st.at q=some (.sl .own k xs)→(q.root=p.root→Aside p.path q.path)→conc (st.putAt p b') tm (w.setCell loc v') lam q=conc st tm w lam q:=by
 simp only[St.at]at hat
 cases ha:st.root p.root with
 |none=>grind
 |some a=>
  rw[ha]at hat;simp only[Qa1]at hat;obtain⟨v,f1,fa,f2,hv,ra,hf,hset,hlam,hoth⟩:=R.Pe ha
  have hkh:(Ky.h i)≠p.root.key:=by cases p.root<;>simp[Root.key]
  have hput':st.putAt p b'=st.Au p.root (a.put p.path b'):=by grind [St.putAt]
  have rbs:RVs (ctx E lam z st.hp.next) w [b'] [v'] (fp (.h i)):=by have:=R.keys (.h i);grind [AQ]
  obtain⟨v1,hv1,rb⟩:=RVs.BU rbs
  obtain rfl:v1=v':=zg
  have hnd:(f1++(fa++f2)).Nodup:=by rw[←hf];exact R.fps.nod _
  have hbh:∀x,x∈f1++(fa++f2)→x∉fp (.h i):=fun x hx=>R.fps.dis p.root.key (.h i) x (fun e=>hkh e.symm) zg
  have hzb:∀x,(ctx E lam z st.hp.next).zb x→x∉f1++(fa++f2):=fun x hx hm=>R.Ado (κ:=p.root.key) zg hx
  obtain⟨loc,u,g1,fb,g2,cs,e,hloc,hspot,hcell,hbl,rbb,hfa,hin,hput⟩:=RV.Ahj p.path hmem ra hat
  have hlfa:loc.block∈fa:=zg
  have hlk:loc.block∈fp p.root.key:=zg
  have hnda:=(JR hnd).2.1
  have hout:∀x,x∈f1∨x∈f2→x≠loc.block:=fun x hx e=>(JR hnd).2.2 loc.block hlfa zg
  obtain⟨hnew,hcon⟩:=hput hnda (fun x hx hm=>hzb x hx zg) b' v1 (fp (.h i)) rb (hbh _ zg)
  have hfz:w.frozen? loc=false:=by
   have:loc=⟨loc.block,loc.off,none⟩:=by cases loc;simp_all
   grind [frozen_of_row]
  have hsetc:=FV w loc v1
  have hroot:∀o c,p.root=.obj o c→loc≠⟨lam o,c,none⟩:=fun o c ho el=>hout (lam o) (.inl (hlam o c ho)) (by rw[el])
  have hm:Moves (·∈fp p.root.key) w (w.setCell loc v1):=⟨rfl,rfl,rfl,zsz,fun x _ hx=>hsetc x (fun e=>hx zg)⟩
  have hkey:=hset (w.setCell loc v1) _ _ (R.AeB hm) (fun x hx=>hsetc x (hout x hx)) hnew
  have hndn:(f1++(g1++(fb++g2)++f2)).Nodup:=zg
  have hn':(f1++((g1++(fp (.h i)++g2))++f2)).Nodup:=by
   have e1:(f1++g1++(fb++(g2++f2))).Nodup:=zg
   obtain⟨n1,_,_⟩:=JR e1
   have e2:(f1++((g1++(fp (.h i)++g2))++f2))=(f1++g1)++(fp (.h i)++(g2++f2)):=zsz
   rw[e2,Qa6];rw[Qa6]at n1;refine⟨n1.1,?_,?_⟩
   ·rw[Qa6];exact⟨R.fps.nod _,n1.2.1,fun x hx y hy e=>hbh y zg (e▸hx)⟩
   grind
  refine⟨loc,u,upk (upk fp p.root.key (f1++((g1++(fp (.h i)++g2))++f2))) (.h i) [],?_,hspot,hcell,hfz,?_,?_,?_⟩
  ·grind
  ·rw[hput'];refine R.pass (hd':=upd hd i ([],[])) (st':=st.Au p.root (a.put p.path b')) p.root.key (.h i) hkh hm (HW _ _) rfl ?_ ?_ ?_ hn' Qb6 (fun _ _ h=>nomatch h) ?_ (fun _ h=>nomatch h)
   ·grind [Iy,upd,L9]
   ·grind [Iy,upd]
   ·simp only[AQ,upd,if_true];exact .nil
   grind
  ·intro j hj;rw[BA _ _ zg,BA _ _ (by cases p.root<;>simp[Root.key])]
  ·intro q k xs hq hasd;rw[hput']
   by_cases hkey':q.root.key=p.root.key
   ·by_cases hrr:q.root=p.root
    ·have hq':=hq;simp only[St.at,hrr,ha,Qa1]at hq'
     have h4:BE st tm (w.setCell loc v1) lam q.root=some v:=by simp_all [IX]
     rw[IU (v:=v) (by rw[Ff];exact h4),IU (v:=v) (by rw[hrr];exact hv)]<;>grind
    ·have hq':=hq;simp only[St.at]at hq'
     cases hr:st.root q.root with
     |none=>grind
     |some a2=>
      rw[hr]at hq';simp only[Qa1]at hq';obtain⟨v2,g,h1,h2,h3⟩:=hoth q.root a2 hkey' hrr hr
      have h4:BE st tm (w.setCell loc v1) lam q.root=some v2:=by
       rw[IX]
       ·exact h1
       ·intro o c ho el
        have hk2:p.root.key=.o o:=by rw[←hkey',ho];rfl
        have:∃c',p.root=.obj o c':=by
         revert hk2;cases p.root<;>simp[Root.key]
        grind
      rw[IU (v:=v2) (by grind [Ff]),IU h1];exact EX q.path h2 hq' (fun x hx=>hsetc x (hout x (h3 x hx)))
   ·exact R.Ag2 hlk hq hkey'
theorem Ax.putObj(R:Ax E lam z fp hd st tm w)(i o c:Nat){b b':AV}{v':Value}(hh:hd i=([b'],[v']))(hat:st.root (.obj o c)=some b):
  ∃u fp',w.cell? ⟨lam o,c,none⟩=some u∧w.frozen? ⟨lam o,c,none⟩=false∧
   Ax E lam z fp' (upd hd i ([],[])) (st.Au (.obj o c) b') tm (w.setCell ⟨lam o,c,none⟩ v')∧(∀j,j≠i→fp' (.h j)=fp (.h j))∧
   ∀q k xs,st.at q=some (.sl .own k xs)→q.root≠.obj o c→conc (st.Au (.obj o c) b') tm (w.setCell ⟨lam o,c,none⟩ v') lam q=conc st tm w lam q:=by
 obtain⟨l,hg,hc⟩:=St.Fg hat;obtain⟨h1,cs,e,f,h2,h3,h4⟩:=R.keys (.o o) l hg;obtain⟨m1,v,m2,f1,fa,f2,hm,hl,hf,r1,ra,r2⟩:=h3.nth hc;have h2':w.heap[lam o]?=some (.cells cs e (0,0)):=h2
 have h4':fp (.o o)=lam o::(f1++(fa++f2)):=by rw[h4,hf];rfl
 have hcell:cs[c]?=some v:=by rw[←Qc1,hm,Qc2 zm];grind
 have rbs:RVs (ctx E lam z st.hp.next) w [b'] [v'] (fp (.h i)):=by have:=R.keys (.h i);grind [AQ]
 obtain⟨v1,hv1,rb⟩:=RVs.BU rbs
 obtain rfl:v1=v':=zg
 have hnd:(lam o::(f1++(fa++f2))).Nodup:=by rw[←h4'];exact R.fps.nod _
 have hlk:lam o∈fp (.o o):=zg
 have hsetc:=FV w ⟨lam o,c,none⟩ v1
 have hmv:Moves (·∈fp (.o o)) w (w.setCell ⟨lam o,c,none⟩ v1):=⟨rfl,rfl,rfl,zsz,fun x _ hx=>hsetc x (fun e=>hx zg)⟩
 have hout:∀x,x∈f1∨x∈fa∨x∈f2→x≠lam o:=fun x hx e=>(List.nodup_cons.1 hnd).1 zg
 have hbh:∀x,x∈fp (.o o)→x∉fp (.h i):=fun x hx=>R.fps.dis (.o o) (.h i) x zsz hx
 have hn':(lam o::(f1++(fp (.h i)++f2))).Nodup:=by
  have e1:((lam o::f1)++(fa++f2)).Nodup:=zg
  obtain⟨n1,_,_⟩:=JR e1
  have e2:(lam o::(f1++(fp (.h i)++f2)))=(lam o::f1)++(fp (.h i)++f2):=zsz
  rw[e2,Qa6];rw[Qa6]at n1;refine⟨n1.1,?_,?_⟩
  ·rw[Qa6];exact⟨R.fps.nod _,n1.2.1,fun x hx y hy e=>hbh y zg (e▸hx)⟩
  grind
 refine⟨v,upk (upk fp (.o o) (lam o::(f1++(fp (.h i)++f2)))) (.h i) [],by grind [Af],frozen_of_row w _ _ cs e h2',?_,?_,?_⟩
 ·refine R.pass (hd':=upd hd i ([],[])) (st':=st.Au (.obj o c) b') (.o o) (.h i) zsz hmv (HW _ _) rfl ?_ ?_ ?_ hn' Qb6 (fun _ _ h=>nomatch h) ?_ (fun _ h=>nomatch h)
  ·intro κ' h1 h2 C x f hK;exact Iy (fun j hj=>by simp[upd,hj]) h2 (L9 h1 hK)
  ·simp only[AQ,St.Au,hg];intro l' hl';simp only[Heap.set,upd,if_true,Qa0]at hl';subst hl';refine⟨h1,cs.setIfInBounds c v1,e,f1++(fp (.h i)++f2),heap_setCell_same w _ c cs e v1 h2',?_,rfl⟩;rw[JV _ _ _ _ hc,Qd6,hm,←hl,Rg];have hzs:=R.AeB hmv (nx:=st.hp.next);rw[hl]
   exact(r1.frame (Ctx.Le.refl _) hzs (fun x hx=>hsetc x (hout x (.inl hx)))).append
    (RVs.cons _ _ _ _ _ _ (rb.frame (Ctx.Le.refl _) hzs (fun x hx=>hsetc x (fun e=>hbh x (e▸hlk) hx)))
     (r2.frame (Ctx.Le.refl _) hzs (fun x hx=>hsetc x (hout x (.inr (.inr hx))))))
  ·simp only[AQ,upd,if_true];exact .nil
  grind
 ·grind [BA]
 ·intro q k xs hq hne
  by_cases hkey':q.root.key=.o o
  ·simp only[St.at]at hq
   cases hr:st.root q.root with
   |none=>grind
   |some a2=>
    rw[hr]at hq;simp only[Qa1]at hq
    obtain⟨c',hc'⟩:∃c',q.root=.obj o c':=by revert hkey';cases q.root<;>simp[Root.key]
    have hcc:c'≠c:=fun e=>hne zg
    rw[hc']at hr;obtain⟨l2,hg2,hl2⟩:=St.Fg hr
    obtain rfl:l=l2:=zg
    obtain⟨u2,g,k1,k2,k3⟩:=RVs.other hm hl r1 r2 hcc hl2
    have h5:BE st tm w lam q.root=some u2:=by
     grind [BE,Af]
    have h6:BE st tm (w.setCell ⟨lam o,c,none⟩ v1) lam q.root=some u2:=by
     grind [IX,Addr.mk.injEq]
    rw[IU (v:=u2) (by grind [Ff]),IU h5];exact EX q.path k2 hq (fun x hx=>hsetc x (hout x ((k3 x hx).imp id .inr)))
  ·exact R.Ag2 (κ:=.o o) hlk hq hkey'
end
end Go.VS
namespace Go
def Op.quiet:Op→Bool
 |.move _|.pick ..|.build ..|.nilCheck _|.binOp ..|.unOp ..|.convert ..|.slice ..|.fieldAddr ..|.field ..|.indexAddr ..|.index ..|.makeFunc ..=>true
 |.call c=>match c.callee with
  |.builtin .len|.builtin .min|.builtin .max=>true
  |_=>false
 |_=>false
def Op.still:Op→Bool
 |.load ..=>true
 |op=>op.quiet
def Ahm(P:Program):Op→Bool
 |.convert s _ _=>match P.underlying s with
  |some (.slice _)=>true
  |_=>false
 |_=>false
def Ma(P:Program)(op:Op):Bool:=op.quiet&&!Ahm P op
end Go
namespace Go.VS
inductive Ha
 |done
 |first(g:GOp) (rest:Ha)
 |alt (g:GOp) (rest more:Ha)
 |stop
 deriving Inhabited
inductive DS
 |skip
 |region (ops:List GOp) (draw:Bool)
 |draw (ts:List Ha)
 |seq (a b:DS)
 |cond (c:Opd) (thn els:DS)
 |block (id:Nat) (body:DS)
 |loop (body:DS)
 |exit (id:Nat)
 |ret
 deriving Inhabited
section
variable(P:Program)
def AE:Operand→Option Opd
 |.tmp t=>some (.t t)
 |.const v=>if v.oneCell' then some (.c v)else none
 |.func f=>(P.funcs[f]?).map fun fn=>.f fn.name
 |.global _=>none
def Fv:List Operand→Option (List Opd)
 |[]=>some []
 |x::r=>match AE P x,Fv r with
  |some y,some l=>some (y::l)
  |_,_=>none
def Jl:Option Operand→Option (Option Opd)
 |none=>some none
 |some x=>(AE P x).map some
def sizeOf?(t:TypeId):Option Nat:=(P.info? t).map (·.size)
def bytesOf?(t:TypeId):Option Nat:=(P.info? t).map (·.bytes)
def zeroOf?(t:TypeId):Option (List Value):=match(P.info? t).bind (·.zero)with
 |some z=>if z.cells.toList.all Value.oneCell' then some z.cells.toList else none
 |none=>none
def EO?(t:TypeId):Option Bool:=match P.underlying t with
 |some (.struct _)=>some true
 |some (.array _ _)=>some true
 |some _=>some false
 |none=>none
def partsOf(place:Nat→Option (Nat×Nat))(len:Nat):List (Nat×Operand)→Option (List (Nat×Nat×Opd))
 |[]=>some []
 |(i,x)::r=>match place i,AE P x,partsOf place len r with
  |some (off,n),some y,some l=>if off+n≤len then some ((off,n,y)::l)else none
  |_,_,_=>none
def PB(len:Nat):List (Nat×Operand)→Option (List (Nat×Opd))
 |[]=>some []
 |(i,x)::r=>match AE P x,PB len r with
  |some y,some l=>if i<len then some ((i,y)::l)else none
  |_,_=>none
def Np(flat:TypeId→Option (List CK)):Nat→List Field→Option (List CK)
 |_,[]=>some []
 |off,f::fs=>if f.name != "_" &&f.offset==off then match flat f.type with
   |some n=>if sizeOf? P f.type=some n.length then(Np flat (off+n.length) fs).map (n++·)else none
   |none=>none
  else none
def Ks:Nat→TypeId→Option (List CK)
 |0,_=>none
 |d+1,t=>match P.underlying t with
  |some (.int _)=>some [.int]
  |some .string=>some [.str]
  |some .bool=>some [.bool]
  |some (.struct fs)=>if P.stoodInHeld t then none else Np P (Ks d) 0 fs.toList
  |some (.array n e)=>match Ks d e with
   |some k=>if sizeOf? P e=some k.length then some (Qa3 n k).flatten else none
   |none=>none
  |_=>none
def UP(op:BinOp)(t:TypeId)(x y:Operand):Option AOp:=
 match AE P x,AE P y,P.underlying t with
 |some a,some b,some (.int _)=>some (.bin op a b)
 |some a,some b,some .string=>some (.bin op a b)
 |some a,some b,some .bool=>if op=.eql∨op=.neq then some (.eqB (op==.neq) a b)else none
 |some a,some b,some (.struct _)=>if(op=.eql∨op=.neq)∧P.eqGuardType P.depth t=false then(Ks P 9 t).map fun ks=>.eqA (op==.neq) ks a b else none
 |some a,some b,some (.array _ _)=>if(op=.eql∨op=.neq)∧P.eqGuardType P.depth t=false then(Ks P 9 t).map fun ks=>.eqA (op==.neq) ks a b else none
 |_,_,_=>none
def L7(src dst:TypeId)(x:Operand):Option AOp:=
 match AE P x,P.underlying src,P.underlying dst with
 |some a,some (.int _),some (.int k)=>some (.conv (.toInt k) a)
 |some a,some .string,some .string=>some (.conv .ident a)
 |some a,some (.int _),some .string=>some (.conv .ofInt a)
 |some a,some (.slice e),some .string=>match P.underlying e with
  |some (.int .u8)=>some (.conv .bytesToStr a)
  |_=>none
 |_,_,_=>none
def Ae7(c:Call):Option AOp:=
 match c.callee with
 |.value (.func f)=>match P.funcs[f]?,Fv P c.args.toList with
  |some fn,some l=>if fn.name != "runtime.NumGoroutine" &&fn.body.isSome then some (.call fn.name l)else none
  |_,_=>none
 |.value (.tmp t)=>(Fv P c.args.toList).map (.callv (.t t))
 |.builtin .len=>match c.args.toList,c.argTypes.toList with
  |[x],[t]=>match AE P x,P.underlying t with
   |some a,some (.slice _)=>some (.lenK a)
   |some a,some .string=>some (.lenS a)
   |some _,some (.array n _)=>some (.lenC n)
   |_,_=>none
  |_,_=>none
 |.builtin .append=>match c.args.toList,c.argTypes.toList with
  |[s,x],[t,u]=>match AE P s,AE P x,P.underlying t,P.underlying u with
   |some a,some b,some (.slice e),some (.slice _)=>match sizeOf? P e,bytesOf? P e,zeroOf? P e with
    |some k,some by_,some z=>if z.length=k∧0<k∧0<by_ then some (.app k by_ a b)else none
    |_,_,_=>none
   |_,_,_,_=>none
  |_,_=>none
 |.builtin .min=>match c.args.toList with
  |[x,y]=>match AE P x,AE P y with
   |some a,some b=>some (.mm false a b)
   |_,_=>none
  |_=>none
 |.builtin .max=>match c.args.toList with
  |[x,y]=>match AE P x,AE P y with
   |some a,some b=>some (.mm true a b)
   |_,_=>none
  |_=>none
 |_=>none
def SH(o:Oper):Option AOp:=
 match o.op with
 |.move x=>(AE P x).map .mv
 |.assign x=>(AE P x).map .asg
 |.pick c a b=>match AE P c,AE P a,AE P b with
  |some c,some a,some b=>some (.pick c a b)
  |_,_,_=>none
 |.alloc e=>(zeroOf? P e).map .alloc
 |.box _ x=>(AE P x).map .box
 |.build t parts=>match zeroOf? P t,P.underlying t with
  |some z,some (.struct fs)=>match fs.toList.mapM (fun f=>(P.info? f.type).map fun i=>(f.offset,i.size))with
   |some places=>(partsOf P (places.toArray[·]?) z.length parts.toList).map (.build z)
   |none=>none
  |some z,some (.array _ e)=>match sizeOf? P e with
   |some k=>(partsOf P (fun i=>some (i*k,k)) z.length parts.toList).map (.build z)
   |none=>none
  |_,_=>none
 |.buildSlice t len parts=>match P.underlying t with
  |some (.slice e)=>match sizeOf? P e,zeroOf? P e with
   |some k,some z=>if z.length=k∧0<k∧len*k≤2^24 then(PB P len parts.toList).map (.buildSl k z len)else none
   |_,_=>none
  |_=>none
 |.load t x=>match EO? P t,sizeOf? P t,AE P x with
  |some agg,some n,some a=>if agg=true∨n=1 then some (.load agg n a)else none
  |_,_,_=>none
 |.store t a x=>match sizeOf? P t,AE P a,AE P x with
  |some n,some a,some b=>if 0<n∧o.dst.isNone then some (.store n a b)else none
  |_,_,_=>none
 |.nilCheck x=>(AE P x).map .nilc
 |.binOp op t x y _=>UP P op t x y
 |.unOp op _ x=>(AE P x).map (.un op)
 |.convert s d x=>L7 P s d x
 |.makeSlice t l c=>match P.underlying t with
  |some (.slice e)=>match sizeOf? P e,bytesOf? P e,zeroOf? P e,AE P l,AE P c with
   |some k,some by_,some z,some l,some c=>if z.length=k∧0<k then some (.mkSl k by_ z l c)else none
   |_,_,_,_,_=>none
  |_=>none
 |.slice t x lo hi none=>match P.underlying t,AE P x,Jl P lo,Jl P hi with
  |some .string,some a,some lo,some hi=>some (.slS a lo hi)
  |some (.slice e),some a,some lo,some hi=>(sizeOf? P e).map fun k=>.slK k a lo hi
  |_,_,_,_=>none
 |.fieldAddr s x f=>match P.underlying s,AE P x with
  |some (.struct fs),some a=>match fs[f]?with
   |some fd=>match sizeOf? P fd.type with
    |some n=>if n≠0 then some (.fAddr fd.offset a)else none
    |none=>none
   |none=>none
  |_,_=>none
 |.field t x f=>match P.underlying t,AE P x with
  |some (.struct fs),some a=>match fs[f]?with
   |some fd=>match EO? P fd.type,sizeOf? P fd.type with
    |some agg,some n=>if agg=true∨n=1 then some (.fld agg fd.offset n a)else none
    |_,_=>none
   |none=>none
  |_,_=>none
 |.indexAddr t x i=>match P.underlying t,AE P x,AE P i with
  |some (.slice e),some a,some i=>(sizeOf? P e).map fun k=>.ixA k a i
  |some (.array n e),some a,some i=>(sizeOf? P e).map fun k=>.ixAr n k a i
  |_,_,_=>none
 |.index t x i=>match P.underlying t,AE P x,AE P i with
  |some .string,some a,some i=>some (.ixS a i)
  |some (.array n e),some a,some i=>match EO? P e,sizeOf? P e with
   |some agg,some k=>if agg=true∨k=1 then some (.ixV agg n k a i)else none
   |_,_=>none
  |_,_,_=>none
 |.extract x i=>(AE P x).map fun a=>.ext a i
 |.makeFunc (.func f) first caps=>match P.funcs[f]?,Fv P first.toList,Fv P caps.toList with
  |some fn,some [],some l=>some (.mkf (fn.name,false) l)
  |some fn,some l,some []=>some (.mkf (fn.name,true) l)
  |_,_,_=>none
 |.call c=>Ae7 P c
 |.makeInterface t x=>match P.underlying t,AE P x with
  |some (.int _),some a=>some (.mkI t a)
  |_,_=>none
 |.panic x=>(AE P x).map .panic
 |_=>none
def guardOf(ops:Array Oper):Option (Nat×Bool)→Option (Option (Nat×Bool))
 |none=>some none
 |some (j,want)=>match(ops[j]?).bind (·.dst)with
  |some t=>some (some (t,want))
  |none=>none
def NX(nt:Nat)(ops:Array Oper)(o:Oper):Option GOp:=
 match SH P o,guardOf ops o.guard with
 |some op,some g=>match o.dst with
  |some d=>if d<nt then some ⟨some d,op,g⟩else none
  |none=>some ⟨none,op,g⟩
 |_,_=>none
def Ua(nt:Nat)(ops:Array Oper):List Oper→Option (List GOp)
 |[]=>some []
 |o::r=>match NX P nt ops o,Ua nt ops r with
  |some g,some l=>some (g::l)
  |_,_=>none
end
section
variable(md:Region.Mode)(ops:Array Oper)
def TH(i:Nat)(B:List Nat):List Nat:=(List.range ops.size).filter fun j=>match ops[j]?with
 |some oj=>oj.after.any fun e=>Region.binds md e&&(e.on==i||B.contains e.on)
 |none=>false
def blocked(i:Nat):Nat→List Nat
 |0=>[]
 |n+1=>TH md ops i (blocked i n)
def AoQ(listed:Array Bool)(i:Nat):Bool:=
 match ops[i]?with
 |none=>false
 |some oi=>
  (blocked md ops i 6).all (fun j=>!listed.getD j true)&&(List.range ops.size).all fun j=>j==i||listed.getD j true||(blocked md ops i 6).contains j||match ops[j]?with
   |some oj=>oi.apart ops oj&&oj.op.still
   |none=>true
def AaT(P:Program)(listed:Array Bool)(i:Nat):Bool:=
 match ops[i]?with
 |some o=>(Ma P o.op&&Region.free md ops listed i)||(o.op.still&&AoQ md ops listed i)
 |none=>false
def AaC(mk:Nat→Option (GOp×Ha)):List Nat→Option Ha
 |[]=>some .stop
 |i::r=>match mk i,AaC mk r with
  |some (g,t),some m=>some (.alt g t m)
  |_,_=>none
def H7(P:Program)(nt:Nat):Nat→Array Bool→Option Ha
 |0,listed=>if Region.ready md ops listed=[]then some .done else none
 |fuel+1,listed=>
  if Region.ready md ops listed=[]then some .done
  else
   let mk:=fun i=>match(ops[i]?).bind (NX P nt ops),H7 P nt fuel (listed.setIfInBounds i true)with
    |some g,some t=>some (g,t)
    |_,_=>none
   match(Region.ready md ops listed).find? (AaT md ops P listed)with
   |some i=>(mk i).map fun(g,t)=>.first g t
   |none=>AaC mk (Region.ready md ops listed)
end
section
variable(P:Program)
def Pd(nt:Nat)(ops:Array Oper)(draw:Bool):Option DS:=
 if draw then
  if Region.noSelect ops then
   if P.follows .mixedOrders||!Region.departs ops then(H7 .any ops P nt ops.size (Qe2 ops.size false)).map fun t=>.draw [t]
   else match H7 .text ops P nt ops.size (Qe2 ops.size false),H7 .gc ops P nt ops.size (Qe2 ops.size false)with
    |some t,some u=>some (.draw [t,u])
    |_,_=>none
  else none
 else(Ua P nt ops ops.toList).map fun l=>.region l false
def codeOf(nt:Nat):Code→Option DS
 |.skip=>some .skip
 |.region _ ops draw=>Pd P nt ops draw
 |.seq a b=>match codeOf nt a,codeOf nt b with
  |some a,some b=>some (.seq a b)
  |_,_=>none
 |.cond c t e=>match AE P c,codeOf nt t,codeOf nt e with
  |some c,some t,some e=>some (.cond c t e)
  |_,_,_=>none
 |.block id b=>(codeOf nt b).map (.block id)
 |.loop b=>(codeOf nt b).map .loop
 |.exit id=>some (.exit id)
 |.ret=>some .ret
 |_=>none
end
end Go.VS
namespace Go.VS
def Win(k:Nat)(v0:Value)(lo n:Nat)(u:Value):Prop:=
 (v0=.slice none 0 0∧u=.slice none 0 0∧lo=0∧n=0)∨
 ∃b off len cap off' cap',v0=.slice (some ⟨b,off,none⟩) len cap∧u=.slice (some ⟨b,off',none⟩) n cap'∧cap'+lo=cap∧n≤cap'∧off'+cap'*k≤off+cap*k∧(cap'≠0→off'=off+lo*k)
def Bq(st:St)(tm:Array Value)(w:World)(lam:Nat→Nat):AV→Value→Prop
 |.ref p ver k lo n,u=>ver≤st.ver p.root∧(ver=st.ver p.root→∃xs v0,st.at p=some (.sl .own k xs)∧conc st tm w lam p=some v0∧Win k v0 lo n u)
 |.adr p ver k i c,u=>ver≤st.ver p.root∧(ver=st.ver p.root→∃xs b off len cap,st.at p=some (.sl .own k xs)∧conc st tm w lam p=some (.slice (some ⟨b,off,none⟩) len cap)∧u=.pointer (some ⟨b,off+i*k+c,none⟩))
 |_,_=>True
def ES(st:St)(tm:Array Value)(w:World)(lam:Nat→Nat)(s:SV)(v:Value):Prop:=
 ∀(j:Nat) (a:AV) (u:Value),s.cells[j]?=some a→(vcells s v)[j]?=some u→Bq st tm w lam a u
def Refs(st:St)(tm:Array Value)(w:World)(lam:Nat→Nat):Prop:=
 ∀t s,st.sl t=.val true s→ES st tm w lam s (tm.getD t undef)
def Rel(E:Env)(st:St)(tm:Array Value)(w:World):Prop:=
 ∃lam z fp,Ax E lam z fp Ao st tm w∧Refs st tm w lam
section
variable{E:Env}{lam:Nat→Nat}{z:Nat→Prop}{fp:Ky→List Nat}{hd:Hands}{st:St}{tm:Array Value}{w:World}
theorem Ax.AkU(R:Ax E lam z fp Ao st tm w)(i:Nat):fp (.h i)=[]:=by
 have:=R.keys (.h i);simp only[AQ,Ao]at this
 cases hf:fp (.h i)with
 |nil=>rfl
 |cons a l=>rw[hf]at this;trivial
theorem RV.Fe{C:Ctx}{w:World}{a:AV}{v:Value}{f:List Nat}(h:RV C w a v f)(ha:a.Ci=false):f=[]:=by
 cases h<;>grind [AV.Ci]
theorem RVs.Fe{C:Ctx}{w:World}:∀{l:List AV} {m:List Value} {f:List Nat},RVs C w l m f→l.any AV.Ci=false→f=[]
 |_,_,_,.nil,_=>rfl
 |_,_,_,.cons a v f l m g h t,ha=>by
  simp only[List.any_cons,Bool.or_eq_false_iff]at ha;rw[h.Fe ha.1,RVs.Fe t ha.2];rfl
def seen(mk:Nat→Nat→AV):AV→AV
 |.sl .own k xs=>mk k xs.length
 |a=>a
theorem Ad5{mk:Nat→Nat→AV}{a:AV}(h:a.Ci=false):seen mk a=a:=by
 cases a with
 |sl τ k xs=>cases τ<;>simp_all [AV.Ci,seen]
 |_=>rfl
theorem SO(mk:Nat→Nat→Nat→AV):∀(l:List AV) (j i:Nat),(Jd mk j l)[i]?=(l[i]?).map (seen (mk (j+i)))
 |[],_,_=>by rfl
 |a::l,j,0=>by
  rfl
 |a::l,j,i+1=>by
  simp only[Jd,Qe0];rw[SO mk l (j+1) i,show j+1+i=j+(i+1)from zm]
theorem Z7{C:Ctx}{w:World}{k:Nat}{xs:List (List AV)}{v:Value}{f:List Nat}(h:RV C w (.sl .own k xs) v f):
  (v=.slice none 0 0∧xs=[])∨∃b off cap,v=.slice (some ⟨b,off,none⟩) xs.length cap∧xs.length≤cap∧cap≤maxLen:=by
 cases h<;>grind
theorem Win.self{C:Ctx}{w:World}{k:Nat}{xs:List (List AV)}{v:Value}{f:List Nat}(h:RV C w (.sl .own k xs) v f):Win k v 0 xs.length v:=by
 rcases Z7 h with⟨rfl,rfl⟩|⟨b,off,cap,rfl,hc,_⟩
 ·exact .inl ⟨rfl,rfl,rfl,rfl⟩
 ·exact .inr ⟨b,off,_,cap,off,cap,rfl,rfl,rfl,hc,Qa7 _,fun _=>zm⟩
theorem AbH{C:Ctx}{w:World}{a:AV}{v:Value}{f:List Nat}(h:RV C w a v f){mk:Nat→Nat→AV}(hmk:∀k n,∃p ver lo,mk k n=.ref p ver k lo n):RV C w (seen mk a) v []:=by
 cases a with
 |sl τ k xs=>
  cases τ with
  |own=>
   obtain⟨p,ver,lo,e⟩:=hmk k xs.length;simp only[seen,e]
   rcases Z7 h with⟨rfl,rfl⟩|⟨b,off,cap,rfl,_⟩<;>exact .ref _ _ _ _ _ _ _
  |imm=>have:=h.Fe rfl;subst this;exact h
  |brw=>have:=h.Fe rfl;subst this;exact h
 |_=>have:=h.Fe rfl;subst this;exact h
theorem SN{C:Ctx}{w:World}{mk:Nat→Nat→Nat→AV}(hmk:∀j k n,∃p ver lo,mk j k n=.ref p ver k lo n):∀{l:List AV} {m:List Value} {f:List Nat} (j:Nat),RVs C w l m f→RVs C w (Jd mk j l) m []
 |_,_,_,_,.nil=>.nil
 |_,_,_,j,.cons a v f l m g h t=>by
  have h1:=AbH h (mk:=mk j) (hmk j);have h2:=SN hmk (j+1) t
  have e:Jd mk j (a::l)=seen (mk j) a::Jd mk (j+1) l:=by
   rfl
  rw[e];exact .cons _ _ [] _ _ [] h1 h2
theorem Bq.XT{a:AV}{u:Value}(h1:∀p v k lo n,a≠.ref p v k lo n)(h2:∀p v k i c,a≠.adr p v k i c):Bq st tm w lam a u:=by
 cases a with
 |ref p v k lo n=>grind
 |adr p v k i c=>grind
 |_=>exact trivial
theorem Anr(R:Ax E lam z fp hd st tm w)(F:Refs st tm w lam){n:Nat}{s:SV}(hs:st.sl n=.val true s):
  RSV (ctx E lam z st.hp.next) w (st.peek n s) (tm.getD n undef) []∧ES st tm w lam (st.peek n s) (tm.getD n undef):=by
 have hk:=R.keys (.s n);simp only[AQ,hs]at hk;have hrs:=hk.1 rfl;have hF:=F n s hs
 have newref:∀j k xs u,s.cells[j]?=some (.sl .own k xs)→(vcells s (tm.getD n undef))[j]?=some u→Bq st tm w lam (.ref ⟨.slot n j,[]⟩ (st.vs n) k 0 xs.length) u:=by
  intro j k xs u hj hu;refine⟨Qa7 _,fun _=>?_⟩;obtain⟨m1,v,m2,f1,fa,f2,hm,hl,hf,r1,ra,r2⟩:=hrs.cells.nth hj
  grind [Win.self,St.at,St.root,TV.cell,AV.at,conc,BE,DK]
 cases s with
 |one a=>
  refine⟨?_,?_⟩
  ·have:st.peek n (.one a)=.one (seen (fun k len=>.ref ⟨.slot n 0,[]⟩ (st.vs n) k 0 len) a):=by
    rfl
   rw[this];exact AbH hrs (fun k n=>⟨_,_,_,rfl⟩)
  ·intro j a' u hj hu
   cases j with
   |succ j=>trivial
   |zero=>
    simp only[St.peek,SV.cells,Qe1,Qa0]at hj;simp only[St.peek,vcells,Qe1,Qa0]at hu
    cases ho:a.Ci with
    |false=>
     have:a'=a:=by
      grind [AV.Ci]
     subst this;exact hF 0 a' u rfl (by simp[vcells,hu])
    |true=>
     cases a with
     |sl τ k xs=>
      cases τ with
      |own=>
       simp only at hj;subst hj;exact newref 0 k xs u rfl (by simp[vcells,hu])
      |_=>trivial
     |_=>simp[AV.Ci]at ho
 |agg l=>
  obtain⟨cs,hv,hr⟩:=hrs;refine⟨⟨cs,hv,SN (fun j k n=>⟨_,_,_,rfl⟩) 0 hr⟩,?_⟩;intro j a' u hj hu;simp only[St.peek,SV.cells]at hj;rw[SO,Qe7]at hj
  cases hlj:l[j]?with
  |none=>grind
  |some a=>
   simp only[hlj,Qa4,Qa0]at hj
   have hu':(vcells (.agg l) (tm.getD n undef))[j]?=some u:=by rw[K8 l _];exact hu
   cases ho:a.Ci with
   |false=>
    rw[Ad5 ho]at hj;subst hj;exact hF j a u hlj hu'
   |true=>
    cases a with
    |sl τ k xs=>
     cases τ with
     |own=>
      simp only[seen]at hj;subst hj;exact newref j k xs u hlj hu'
     |_=>trivial
    |_=>simp[AV.Ci]at ho
theorem EI(R:Ax E lam z fp hd st tm w)(F:Refs st tm w lam){g:Bool}(hg:g=true){o:Operand}{x:Opd}(ho:AE E.P o=some x){s:SV}(h:(st.use g x).holds (·=s))(ds:List Deferred):
  RSV (ctx E lam z st.hp.next) w s (Act.eval ⟨tm,ds⟩ o) []∧ES st tm w lam s (Act.eval ⟨tm,ds⟩ o):=by
 subst hg
 cases o with
 |tmp n=>
  simp only[AE,Qa0]at ho;subst ho;simp only[St.use]at h
  cases hs:st.sl n with
  |val b s'=>
   simp only[hs]at h;rw[M.Aa,M.Ak]at h;obtain⟨hb,h⟩:=h;have hb:=hb trivial;subst hb;change True∧_ at h;obtain⟨_,rfl⟩:=h;exact Anr R F hs
  |tup l=>grind [M.fail,M.holds]
  |dead=>grind [M.fail,M.holds]
 |const v=>
  simp only[AE]at ho;split at ho
  case isFalse=>cases ho
  rename_i hv;simp only[Qa0]at ho;subst ho;change True∧_ at h;obtain⟨_,rfl⟩:=h;refine⟨.lit v hv,?_⟩;intro j a u hj _
  cases j with
  |zero=>simp[SV.cells]at hj;subst hj;trivial
  |succ j=>trivial
 |global n=>trivial
 |func f=>
  simp only[AE]at ho
  cases hf:E.P.funcs[f]?with
  |none=>grind
  |some fn=>
   simp only[hf,Qa4,Qa0]at ho;subst ho;change True∧_ at h;obtain⟨_,rfl⟩:=h;refine⟨?_,?_⟩
   ·exact RV.clo (fn.name,false) [] f fn [] hf rfl .nil
   ·intro j a u hj _
    cases j with
    |zero=>simp[SV.cells]at hj;subst hj;trivial
    |succ j=>trivial
theorem Iv(R:Ax E lam z fp hd st tm w){w':World}{q:Place}{k:Nat}{xs:List (List AV)}(hq:st.at q=some (.sl .own k xs))(hb:∀b,b∈fp q.root.key→w'.heap[b]?=w.heap[b]?):
  conc st tm w' lam q=conc st tm w lam q:=by
 simp only[St.at]at hq
 cases hr:st.root q.root with
 |none=>grind
 |some a2=>
  rw[hr]at hq;simp only[Qa1]at hq;obtain⟨v2,g1,ga,g2,h1,h2,h3,_,h4,_⟩:=R.Pe hr
  have h5:BE st tm w' lam q.root=some v2:=by
   revert h1
   cases hroot:q.root with
   |slot t j=>exact id
   |obj o c=>
    intro h1;have:w'.heap[lam o]?=w.heap[lam o]?:=hb _ zg
    grind [BE,World.cell?]
  rw[IU h5,IU h1];exact EX q.path h2 hq (fun x hx=>hb x zg)
theorem Bq.grow(R:Ax E lam z fp hd st tm w){w':World}(hm:Moves (fun _=>False) w w'){a:AV}{u:Value}(h:Bq st tm w lam a u):Bq st tm w' lam a u:=by
 have hb:∀κ,∀b,b∈fp κ→w'.heap[b]?=w.heap[b]?:=fun κ b hb=>hm.block b (R.fps.ok κ b hb).1 id
 cases a with
 |ref p ver k lo n=>
  refine⟨h.1,fun hv=>?_⟩
  obtain⟨xs,v0,h1,h2,h3⟩:=h.2 hv<;>grind [Iv]
 |adr p ver k i c=>
  refine⟨h.1,fun hv=>?_⟩
  obtain⟨xs,b,off,len,cap,h1,h2,h3⟩:=h.2 hv<;>grind [Iv]
 |_=>exact trivial
theorem YN{t j:Nat}{path:List Stp}{k:Nat}{xs:List (List AV)}(h:st.at ⟨.slot t j,path⟩=some (.sl .own k xs)):(st.sl t).CI=true:=by
 simp only[St.at]at h
 cases hr:st.root (.slot t j)with
 |none=>grind
 |some a=>
  rw[hr]at h;simp only[Qa1]at h;obtain⟨s,hs,hj⟩:=St.Fk hr
  have ha:a.Ci=true:=by
   cases path with
   |nil=>simp only[AV.at,Qa0]at h;subst h;rfl
   |cons s r=>
    cases a with
    |sl τ k xs=>cases τ<;>first|rfl|trivial
    |_=>simp[AV.at]at h
  grind [TV.CI,SV.CI]
theorem Bq.set{d:Nat}{x:TV}{v:Value}{a:AV}{u:Value}(h:Bq st tm w lam a u):Bq (st.set d x) (tm.setIfInBounds d v) w lam a u:=by
 have main:∀(p:Place) (ver:Nat),ver≤st.ver p.root→ver≤(st.set d x).ver p.root:=by
  intro p ver hv
  cases hr:p.root with
  |obj o c=>rw[hr]at hv;exact hv
  |slot t j=>
   rw[hr]at hv
   simp only[St.ver,St.set]at hv⊢<;>grind [upd]
 have live:∀(p:Place) (ver k:Nat) (xs:List (List AV)),ver≤st.ver p.root→ver=(st.set d x).ver p.root→(ver=st.ver p.root→st.at p=some (.sl .own k xs))→
   ver=st.ver p.root∧(st.at p=some (.sl .own k xs)→(st.set d x).at p=st.at p∧conc (st.set d x) (tm.setIfInBounds d v) w lam p=conc st tm w lam p):=by
  intro p ver k xs hv he hat;obtain⟨r,path⟩:=p
  cases r with
  |obj o c=>exact⟨he,fun _=>⟨rfl,rfl⟩⟩
  |slot t j=>
   simp only[St.ver,St.set]at hv he hat⊢
   by_cases htd:t=d
   ·grind [upd,YN]
   ·have e1:ver=st.vs t:=by
     grind [upd]
    refine⟨e1,fun _=>⟨?_,?_⟩⟩
    ·grind [St.at,St.root,upd]
    ·have e:(tm.setIfInBounds d v).getD t undef=tm.getD t undef:=by
      simp only[Qb3]<;>grind
     grind [conc,BE,upd]
 cases a with
 |ref p ver k lo n=>
  refine⟨main p ver h.1,fun hv=>?_⟩
  by_cases he:ver=st.ver p.root
  ·obtain⟨xs,v0,h1,h2,h3⟩:=h.2 he<;>grind
  ·exact absurd (live p ver k [] h.1 hv (fun e=>absurd e he)).1 he
 |adr p ver k i c=>
  refine⟨main p ver h.1,fun hv=>?_⟩
  by_cases he:ver=st.ver p.root
  ·obtain⟨xs,b,off,len,cap,h1,h2,h3⟩:=h.2 he<;>grind
  ·exact absurd (live p ver k [] h.1 hv (fun e=>absurd e he)).1 he
 |_=>exact trivial
theorem ES.set{d:Nat}{x:TV}{v:Value}{s:SV}{u:Value}(h:ES st tm w lam s u):ES (st.set d x) (tm.setIfInBounds d v) w lam s u:=
 fun j a y hj hy=>(h j a y hj hy).set
theorem Refs.set(F:Refs st tm w lam){d:Nat}{s:SV}{v:Value}(hd:d<tm.size)(hn:ES st tm w lam s v):Refs (st.set d (.val true s)) (tm.setIfInBounds d v) w lam:=by
 intro t s' hs
 by_cases ht:t=d
 ·subst ht;simp only[St.set,upd,if_true,TV.val.injEq,true_and]at hs;subst hs
  have:(tm.setIfInBounds t v).getD t undef=v:=by simp[hd]
  rw[this];exact hn.set
 ·have e:(tm.setIfInBounds d v).getD t undef=tm.getD t undef:=by
   simp only[Qb3];rw[Qc9 (fun e=>ht e.symm)]
  simp only[St.set,upd,if_neg ht]at hs;rw[e];exact(F t s' hs).set
theorem Refs.Pf(F:Refs st tm w lam){d:Nat}{x:TV}{v:Value}(hx:∀s,x≠.val true s):Refs (st.set d x) (tm.setIfInBounds d v) w lam:=by
 intro t s' hs
 by_cases ht:t=d
 ·simp_all [St.set,upd]
 ·have e:(tm.setIfInBounds d v).getD t undef=tm.getD t undef:=by
   simp only[Qb3]<;>grind
  simp only[St.set,upd,if_neg ht]at hs;rw[e];exact(F t s' hs).set
theorem Refs.grow(R:Ax E lam z fp hd st tm w)(F:Refs st tm w lam){w':World}(hm:Moves (fun _=>False) w w'):Refs st tm w' lam:=
 fun t s hs j a u hj hu=>(F t s hs j a u hj hu).grow R hm
def ROk(E:Env)(lam:Nat→Nat)(z:Nat→Prop)(st:St)(tm:Array Value)(w:World)(s:SV)(v:Value)(w':World):Prop:=
 ∃f,Moves (fun _=>False) w w'∧RSV (ctx E lam z st.hp.next) w' s v f∧f.Nodup∧(∀b,b∈f→w.heap.size≤b∧b<w'.heap.size)∧ES st tm w lam s v
theorem N1(i:Nat)(x:List AV×List Value):upd (upd Ao i x) i ([],[])=Ao:=by
 grind [upd,Ao]
theorem Rel.result(R:Ax E lam z fp Ao st tm w)(F:Refs st tm w lam){s:SV}{v:Value}{w':World}(h:ROk E lam z st tm w s v w'){d:Nat}(hd:d<E.nt):
  Rel E (st.set d (.val true s)) (tm.setIfInBounds d v) w':=by
 obtain⟨f,hm,hs,hn,hf,hr⟩:=h;have R1:=R.turn 0 (hm.mono (fun _ h=>h.elim)) hs.cells hn (fun b hb=>.inr (hf b hb));have R2:=R1.PR 0 d (.val true s) v hd (by rw[FW];exact⟨fun _=>hs,fun h=>nomatch h⟩) (if(st.sl d).CI then upd st.vs d (st.vs d+1)else st.vs) st.hv
 rw[N1]at R2;exact⟨lam,z,_,R2,(F.grow R hm).set (by grind [R.tsz]) (fun j a u hj hu=>(hr j a u hj hu).grow R hm)⟩
theorem Rel.off(h:Rel E st tm w){d:Nat}(hd:d<E.nt)(s:SV):Rel E (st.set d (.val false s)) (tm.setIfInBounds d undef) w:=by
 obtain⟨lam,z,fp,R,F⟩:=h;have R2:=R.PR 0 d (.val false s) undef hd ⟨(fun h=>nomatch h),fun _=>⟨rfl,R.AkU 0⟩⟩ (if(st.sl d).CI then upd st.vs d (st.vs d+1)else st.vs) st.hv
 have e:upd Ao 0 ([],[])=Ao:=by grind [upd,Ao]
 rw[e]at R2;exact⟨lam,z,_,R2,F.Pf zg⟩
end
end Go.VS
namespace Go.VS
section
variable{E:Env}{lam:Nat→Nat}{z:Nat→Prop}{fp:Ky→List Nat}{hd:Hands}{st:St}{tm:Array Value}{w:World}{ds:List Deferred}
def OpR(E:Env)(lam:Nat→Nat)(z:Nat→Prop)(st:St)(tm:Array Value)(ds:List Deferred)(w:World)(o:Oper)(s:SV):Prop:=
 ∃v w',(execOp (Act.eval ⟨tm,ds⟩) o).run E.P w=.ok (.value v) w'∧ROk E lam z st tm w s v w'∧(Ma E.P o.op=true→∀u,(execOp (Act.eval ⟨tm,ds⟩) o).run E.P u=.ok (.value v) u)∧(o.op.still=true→w'=w)
theorem OpR.quiet{o:Oper}{s:SV}{v:Value}(h:∀u,(execOp (Act.eval ⟨tm,ds⟩) o).run E.P u=.ok (.value v) u)(hr:ROk E lam z st tm w s v w):OpR E lam z st tm ds w o s:=⟨v,w,h w,hr,fun _=>h,fun _=>rfl⟩
theorem ROk.same{s:SV}{v:Value}(h:RSV (ctx E lam z st.hp.next) w s v [])(hr:ES st tm w lam s v):ROk E lam z st tm w s v w:=
 ⟨[],Moves.refl _ _,h,Qb6,(fun _ h=>nomatch h),hr⟩
theorem ES.one{a:AV}{v:Value}(h:Bq st tm w lam a v):ES st tm w lam (.one a) v:=by
 intro j a' u hj hu<;>grind [SV.cells,vcells]
theorem ES.BU{a:AV}{v:Value}(h:ES st tm w lam (.one a) v):Bq st tm w lam a v:=h 0 a v rfl rfl
theorem ROk.one{a:AV}{v:Value}(h:RV (ctx E lam z st.hp.next) w a v [])(hr:Bq st tm w lam a v):ROk E lam z st tm w (.one a) v w:=.same h (.one hr)
theorem ROk.lit{v:Value}(h:v.oneCell'=true):ROk E lam z st tm w (.one (.lit v)) v w:=.one (.lit v h) trivial
theorem BO{g:Bool}{x:Opd}{K:AV→Prop}(h:(st.CJ g x).holds K):∃a,(st.use g x).holds (·=.one a)∧K a:=by
 unfold St.CJ at h;rw[M.Aa,M.Aw]at h;obtain⟨s,h1,h2⟩:=h
 cases s with
 |one a=>grind [M.Ae]
 |agg l=>trivial
theorem Hk{g:Bool}{x:Opd}{K:Int→Prop}(h:(st.H9 g x).holds K):∃k n,(st.use g x).holds (·=.one (.lit (.int k n)))∧K n:=by
 unfold St.H9 at h;rw[M.Aa,M.Aw]at h;obtain⟨s,h1,h2⟩:=h;split at h2
 ·rw[M.Ae]at h2;exact⟨_,_,h1,h2⟩
 trivial
theorem IB{g:Bool}{x:Opd}{K:Bool→Prop}(h:(st.IZ g x).holds K):∃b,(st.use g x).holds (·=.one (.lit (.bool b)))∧K b:=by
 unfold St.IZ at h;rw[M.Aa,M.Aw]at h;obtain⟨s,h1,h2⟩:=h;split at h2
 ·grind [M.Ae]
 trivial
theorem JD{C:Ctx}{v u:Value}{f:List Nat}(h:RV C w (.lit u) v f):v=u∧u.oneCell'=true:=by cases h<;>grind
theorem Cf(R:Ax E lam z fp hd st tm w)(F:Refs st tm w lam){g:Bool}(hg:g=true){o:Operand}{x:Opd}(ho:AE E.P o=some x){u:Value}(h:(st.use g x).holds (·=.one (.lit u))):
  Act.eval ⟨tm,ds⟩ o=u:=(JD (EI R F hg ho h ds).1).1
theorem ArE(R:Ax E lam z fp hd st tm w)(F:Refs st tm w lam){o:Oper}{x:Operand}{a:Opd}(ho:o.op=.move x)(ha:AE E.P x=some a){s:SV}{g:Bool}(hg:g=true)
  (h:(st.use g a).holds (·=s)):OpR E lam z st tm ds w o s:=by
 obtain⟨h1,h2⟩:=EI R F hg ha h ds;exact OpR.quiet (v:=Act.eval ⟨tm,ds⟩ x) (fun w=>by simp[execOp,ho]) (.same h1 h2)
theorem ApX(R:Ax E lam z fp hd st tm w)(F:Refs st tm w lam){o:Oper}{c a b:Operand}{c' a' b':Opd}(ho:o.op=.pick c a b)(hc:AE E.P c=some c')(ha:AE E.P a=some a')(hb:AE E.P b=some b')
  {s:SV} {g:Bool} (hg:g=true) (h:(st.BL g (.pick c' a' b')).holds (·=s)):OpR E lam z st tm ds w o s:=by
 subst hg;simp only[St.BL,M.Aa,Bool.true_and]at h;obtain⟨cb,h1,h⟩:=IB h;obtain⟨x,h2,h⟩:=IB h;obtain⟨y,h3,h⟩:=IB h;rw[M.Ae]at h;subst h;have e1:=Cf (ds:=ds) R F rfl hc h1
 cases cb with
 |true=>
  have e2:=Cf (ds:=ds) R F rfl ha h2;exact OpR.quiet (v:=.bool x) (fun w=>by simp_all [execOp,asBool]) (ROk.lit rfl)
 |false=>
  have e2:=Cf (ds:=ds) R F (by rfl) hb h3;exact OpR.quiet (v:=.bool y) (fun w=>by simp_all [execOp,asBool]) (ROk.lit rfl)
theorem Arb(R:Ax E lam z fp hd st tm w)(F:Refs st tm w lam){o:Oper}{t:TypeId}{x:Operand}{a:Opd}{k:IntKind}(ho:o.op=.makeInterface t x)(ht:E.P.underlying t=some (.int k))(ha:AE E.P x=some a){s:SV}{g:Bool}(hg:g=true)
  (h:(st.BL g (.mkI t a)).holds (·=s)):OpR E lam z st tm ds w o s:=by
 simp only[St.BL,M.Aa]at h;obtain⟨c,h1,h⟩:=BO h;split at h
 case h_2=>trivial
 rename_i u;have e:=Cf (ds:=ds) R F hg ha h1;rw[M.Ae]at h;subst h;exact OpR.quiet (v:=_) (fun w=>by simp_all [execOp,Instr.makeInterface,run_underlying]) (ROk.lit rfl)
theorem ArF(R:Ax E lam z fp hd st tm w)(F:Refs st tm w lam){o:Oper}{op:UnOp}{t:TypeId}{x:Operand}{a:Opd}(ho:o.op=.unOp op t x)(ha:AE E.P x=some a){s:SV}{g:Bool}(hg:g=true)
  (h:(st.BL g (.un op a)).holds (·=s)):OpR E lam z st tm ds w o s:=by
 simp only[St.BL,M.Aa]at h;obtain⟨c,h1,h⟩:=BO h;split at h
 case h_2=>trivial
 rename_i u;have e:=Cf (ds:=ds) R F hg ha h1;rw[M.Aa,M.Dh]at h;obtain⟨v,hv,h⟩:=h;rw[M.Ae]at h;subst h;unfold unV at hv;split at hv
 ·rename_i k n;split at hv
  ·cases hv;exact OpR.quiet (v:=_) (fun w=>by simp[execOp,ho,e,Op.unary,Op.intArith]) (ROk.lit rfl)
  ·cases hv;exact OpR.quiet (v:=_) (fun w=>by simp[execOp,ho,e,Op.unary,Op.intBits]) (ROk.lit rfl)
  grind
 ·split at hv
  ·cases hv;exact OpR.quiet (v:=_) (fun w=>by simp[execOp,ho,e,Op.unary]) (ROk.lit rfl)
  grind
 grind
theorem ApQ(R:Ax E lam z fp hd st tm w)(F:Refs st tm w lam){o:Oper}{t u:TypeId}{x:Operand}{op:AOp}(ho:o.op=.convert t u x)(ha:L7 E.P t u x=some op)(hnb:∀a,op≠.conv .bytesToStr a){s:SV}{g:Bool}(hg:g=true)
  (h:(st.BL g op).holds (·=s)):OpR E lam z st tm ds w o s:=by
 unfold L7 at ha;split at ha
 ·rename_i a k k' hx hs hd';simp only[Qa0]at ha;subst ha;simp only[St.BL,M.Aa]at h;obtain⟨c,h1,h⟩:=BO h;split at h
  ·rename_i k2 k3 n hk;simp only[Cv.toInt.injEq]at hk;subst hk;rw[M.Ae]at h;subst h;have e:=Cf (ds:=ds) R F hg hx h1;exact OpR.quiet (v:=.int k' (k'.wrap n)) (fun w=>by simp_all [execOp,convert,run_underlying,Conv.intToInt]) (ROk.lit rfl)
  all_goals trivial
 ·rename_i a hx hs hd';simp only[Qa0]at ha;subst ha;simp only[St.BL,M.Aa]at h;obtain⟨c,h1,h⟩:=BO h;split at h
  ·grind
  ·rename_i b hk;rw[M.Ae]at h;subst h;have e:=Cf (ds:=ds) R F hg hx h1;exact OpR.quiet (v:=.string b) (fun w=>by simp_all [execOp,convert,run_underlying]) (ROk.lit rfl)
  all_goals trivial
 ·rename_i a k hx hs hd';simp only[Qa0]at ha;subst ha;simp only[St.BL,M.Aa]at h;obtain⟨c,h1,h⟩:=BO h;split at h
  ·grind
  ·grind
  ·rename_i k2 n hk;rw[M.Ae]at h;subst h;have e:=Cf (ds:=ds) R F hg hx h1;exact OpR.quiet (v:=.string (Utf8.encode n)) (fun w=>by simp_all [execOp,convert,run_underlying,Conv.intToString]) (ROk.lit rfl)
  all_goals trivial
 ·grind
 grind
theorem ApW(R:Ax E lam z fp hd st tm w)(F:Refs st tm w lam){o:Oper}{x:Operand}{a:Opd}(ho:o.op=.nilCheck x)(ha:AE E.P x=some a){s:SV}{g:Bool}(hg:g=true)
  (h:(st.BL g (.nilc a)).holds (·=s)):OpR E lam z st tm ds w o s:=by
 simp only[St.BL,M.Aa]at h;obtain⟨c,h1,h⟩:=BO h;obtain⟨h2,h3⟩:=EI R F hg ha h1 ds;generalize hu:Act.eval ⟨tm,ds⟩ x=u at h2 h3;split at h
 ·rw[M.Ae]at h;subst h;have h2':=h2;cases h2;exact OpR.quiet (v:=_) (fun w=>by simp_all [execOp]) (.same h2' h3)
 ·rw[M.Ae]at h;subst h;have h2':=h2;cases h2;exact OpR.quiet (v:=_) (fun w=>by simp_all [execOp]) (.same h2' h3)
 ·rw[M.Ae]at h;subst h;have h2':=h2;cases h2;exact OpR.quiet (v:=_) (fun w=>by simp_all [execOp]) (.same h2' h3)
 ·rw[M.Ae]at h;subst h;have h2':=h2;cases h2;exact OpR.quiet (v:=_) (fun w=>by simp_all [execOp]) (.same h2' h3)
 trivial
theorem ApT(R:Ax E lam z fp hd st tm w)(F:Refs st tm w lam){o:Oper}{x:Operand}{t:TypeId}{e:TypeId}{a:Opd}(ho:o.op=.call {callee:=.builtin .len,args:=#[x],argTypes:=#[t]})
  (ha:AE E.P x=some a) (ht:E.P.underlying t=some (.slice e)) {s:SV} {g:Bool} (hg:g=true) (h:(st.BL g (.lenK a)).holds (·=s)):OpR E lam z st tm ds w o s:=by
 simp only[St.BL,M.Aa]at h;obtain⟨c,h1,h⟩:=BO h;obtain⟨h2,h3⟩:=EI R F hg ha h1 ds;generalize hu:Act.eval ⟨tm,ds⟩ x=u at h2 h3;rw[M.Aw]at h;obtain⟨n,hn,h⟩:=h;rw[M.Ae]at h;subst h
 have key:∃b m c',u=.slice b m c'∧n=(m:Int):=by
  unfold Anf at hn;split at hn
  ·rw[M.Ae]at hn;cases h2<;>grind
  ·rw[M.Ae]at hn
   cases h2<;>grind
  ·rw[M.Ae]at hn;obtain⟨rfl,_⟩:=JD h2<;>grind
  trivial
 obtain⟨b,m,c',rfl,rfl⟩:=key;exact OpR.quiet (v:=.int .i64 m) (fun w=>by simp[execOp,ho,resolve,invoke,builtin,hu,Builtin.len_,run_underlying ht,goInt]) (ROk.lit rfl)
theorem ApU(R:Ax E lam z fp hd st tm w)(F:Refs st tm w lam){o:Oper}{x:Operand}{t:TypeId}{a:Opd}(ho:o.op=.call {callee:=.builtin .len,args:=#[x],argTypes:=#[t]})
  (ha:AE E.P x=some a) (ht:E.P.underlying t=some .string) {s:SV} {g:Bool} (hg:g=true) (h:(st.BL g (.lenS a)).holds (·=s)):OpR E lam z st tm ds w o s:=by
 simp only[St.BL,M.Aa]at h;obtain⟨c,h1,h⟩:=BO h;split at h
 ·rename_i b;rw[M.Ae]at h;subst h;have e:=Cf (ds:=ds) R F hg ha h1;exact OpR.quiet (v:=.int .i64 b.size) (fun w=>by simp[execOp,ho,resolve,invoke,builtin,e,Builtin.len_,run_underlying ht,goInt]) (ROk.lit rfl)
 trivial
theorem ApS{o:Oper}{x:Operand}{t e:TypeId}{n:Nat}(ho:o.op=.call {callee:=.builtin .len,args:=#[x],argTypes:=#[t]})
  (ht:E.P.underlying t=some (.array n e)) {s:SV} {g:Bool} (h:(st.BL g (.lenC n)).holds (·=s)):OpR E lam z st tm ds w o s:=by
 simp only[St.BL]at h;rw[M.Ae]at h;subst h;exact OpR.quiet (v:=.int .i64 n) (fun w=>by simp[execOp,ho,resolve,invoke,builtin,Builtin.len_,run_underlying ht,goInt]) (ROk.lit rfl)
theorem ArD(R:Ax E lam z fp hd st tm w)(F:Refs st tm w lam){o:Oper}{mx:Bool}{x y:Operand}{ts:Array TypeId}{a b:Opd}
  (ho:o.op=.call {callee:=.builtin (if mx then .max else .min),args:=#[x,y],argTypes:=ts}) (ha:AE E.P x=some a) (hb:AE E.P y=some b) {s:SV} {g:Bool} (hg:g=true)
  (h:(st.BL g (.mm mx a b)).holds (·=s)):OpR E lam z st tm ds w o s:=by
 simp only[St.BL,M.Aa]at h;obtain⟨c,h1,h⟩:=BO h;obtain⟨c',h2,h⟩:=BO h;split at h
 ·rename_i k m k' n;rw[M.Ae]at h;subst h;have e1:=Cf (ds:=ds) R F hg ha h1;have e2:=Cf (ds:=ds) R F hg hb h2
  cases mx with
  |true=>exact OpR.quiet (v:=_) (fun w=>by simp_all [execOp,resolve,invoke,builtin,run_max_int2]) (ROk.lit rfl)
  |false=>exact OpR.quiet (v:=_) (fun w=>by simp_all [execOp,resolve,invoke,builtin,run_min_int2]) (ROk.lit rfl)
 trivial
theorem AnI(R:Ax E lam z fp hd st tm w)(F:Refs st tm w lam){o:Oper}{t:TypeId}{x:Operand}{a:Opd}{f n:Nat}{fs:Array Field}{fd:Field}(ho:o.op=.fieldAddr t x f)(ha:AE E.P x=some a)
  (ht:E.P.underlying t=some (.struct fs)) (hf:fs[f]?=some fd) (hn:sizeOf? E.P fd.type=some n) (hn0:n≠0) {s:SV} {g:Bool} (hg:g=true) (h:(st.BL g (.fAddr fd.offset a)).holds (·=s)):
  OpR E lam z st tm ds w o s:=by
 simp only[St.BL,M.Aa]at h;obtain⟨c,h1,h⟩:=BO h;obtain⟨h2,h3⟩:=EI R F hg ha h1 ds;generalize hu:Act.eval ⟨tm,ds⟩ x=u at h2 h3
 have hrun:∀ad:Addr,u=.pointer (some ad)→∀w,(execOp (Act.eval ⟨tm,ds⟩) o).run E.P w=.ok (.value (.pointer (some (ad.add fd.offset)))) w:=by
  intro ad e;subst e;simp only[sizeOf?,Qa2]at hn;obtain⟨i,hi,hi2⟩:=hn;simp_all [execOp,Instr.fieldAt,run_underlying,Instr.sureAddr,fieldPlace,sizeOf,typeInfo]
 have hadd:∀b c m,(⟨b,c,none⟩:Addr).add m=⟨b,c+m,none⟩:=by grind [Addr.add]
 split at h
 ·rename_i o' c';rw[M.Ae]at h;subst h
  cases h2 with
  |ptr _ _ hlt=>
   refine OpR.quiet (hrun _ rfl) ?_;rw[hadd];exact ROk.one (.ptr o' (c'+fd.offset) hlt) trivial
 ·rename_i p v k i c';rw[M.Ae]at h;subst h
  cases h2 with
  |adr _ _ _ _ _ ad=>
   refine OpR.quiet (hrun _ rfl) (ROk.one (.adr ..) ?_);have:=h3.BU;refine⟨this.1,fun hv=>?_⟩
   obtain⟨xs,b,off,len,cap,k1,k2,k3⟩:=this.2 hv<;>grind
 ·rename_i k xs i c';rw[M.Ae]at h;subst h
  cases h2 with
  |iadr _ _ _ _ b off cs e fz hz hb hs hk hr=>
   refine OpR.quiet (hrun _ rfl) ?_;rw[hadd,Qc6];exact ROk.one (.iadr k xs i _ b off cs e fz hz hb hs hk hr) trivial
 trivial
theorem Aq8(R:Ax E lam z fp hd st tm w)(F:Refs st tm w lam){o:Oper}{t e:TypeId}{x i:Operand}{a b:Opd}{k:Nat}(ho:o.op=.indexAddr t x i)(ha:AE E.P x=some a)(hb:AE E.P i=some b)
  (ht:E.P.underlying t=some (.slice e)) (hk:sizeOf? E.P e=some k) {s:SV} {g:Bool} (hg:g=true) (h:(st.BL g (.ixA k a b)).holds (·=s)):OpR E lam z st tm ds w o s:=by
 simp only[St.BL,M.Aa]at h;obtain⟨ik,n,h0,h⟩:=Hk h;obtain⟨c,h1,h⟩:=BO h;obtain⟨h2,h3⟩:=EI R F hg ha h1 ds;have e0:=Cf (ds:=ds) R F hg hb h0;generalize hu:Act.eval ⟨tm,ds⟩ x=u at h2 h3;simp only[sizeOf?,Qa2]at hk;obtain⟨ti,hi,hi2⟩:=hk
 have hrun:∀(ad:Addr) (len cap:Nat),u=.slice (some ad) len cap→0≤n→n<len→∀w,(execOp (Act.eval ⟨tm,ds⟩) o).run E.P w=.ok (.value (.pointer (some (ad.add (n.toNat*k))))) w:=by
  intro ad len cap e1 hn0 hn1;subst e1;simp[execOp,ho,hu,e0,Instr.indexAt,run_underlying ht,asIntOf,hn0,hn1,sizeOf,typeInfo,hi,hi2]
 have hadd:∀b c m,(⟨b,c,none⟩:Addr).add m=⟨b,c+m,none⟩:=by grind [Addr.add]
 split at h
 ·rename_i p v k' lo m;split at h
  ·rename_i k2 xs' hat;simp only[M.Aa,M.Ak]at h;obtain⟨hv,hkk,hn,h⟩:=h;rw[M.Ae]at h;subst h;subst hkk;obtain⟨hn0,hn1⟩:=hn hg;have hc:=(h3.BU).2 hv;obtain⟨xs,v0,k1,k3,k4⟩:=hc
   rcases k4 with⟨_,_,_,rfl⟩|⟨bk,off,len,cap,off',cap',rfl,rfl,k5,k6,k7,k8⟩
   ·omega
   ·refine OpR.quiet (hrun _ _ _ rfl hn0 hn1) (ROk.one (.adr ..) ⟨(h3.BU).1,fun _=>⟨xs,bk,off,len,cap,k1,k3,?_⟩⟩)
    rw[hadd,k8 zm]<;>grind
  trivial
 ·rename_i τ k' xs;simp only[M.Aa,M.Ak]at h;obtain⟨hkk,hτ,hn,h⟩:=h;rw[M.Ae]at h;subst h;subst hkk;obtain⟨hn0,hn1⟩:=hn hg
  cases h2 with
  |slNil=>grind
  |shrE=>grind
  |shr _ _ _ bk off cap cs e' fz _ hz him hb' hs hc hkk hr=>
   refine OpR.quiet (hrun _ _ _ rfl hn0 hn1) ?_;rw[hadd];exact ROk.one (.iadr k' xs n.toNat 0 bk off cs e' fz hz hb' hs hkk hr) trivial
 trivial
theorem ApR(R:Ax E lam z fp hd st tm w)(F:Refs st tm w lam){o:Oper}{t e:TypeId}{x i:Operand}{a b:Opd}{len k:Nat}(ho:o.op=.indexAddr t x i)(ha:AE E.P x=some a)(hb:AE E.P i=some b)
  (ht:E.P.underlying t=some (.array len e)) (hk:sizeOf? E.P e=some k) {s:SV} {g:Bool} (hg:g=true) (h:(st.BL g (.ixAr len k a b)).holds (·=s)):OpR E lam z st tm ds w o s:=by
 simp only[St.BL,M.Aa]at h;obtain⟨ik,n,h0,h⟩:=Hk h;rw[M.Ak]at h;obtain⟨hn,h⟩:=h;obtain⟨hn0,hn1⟩:=hn hg;obtain⟨c,h1,h⟩:=BO h;obtain⟨h2,h3⟩:=EI R F hg ha h1 ds;have e0:=Cf (ds:=ds) R F hg hb h0;generalize hu:Act.eval ⟨tm,ds⟩ x=u at h2 h3;simp only[sizeOf?,Qa2]at hk;obtain⟨ti,hi,hi2⟩:=hk
 have hrun:∀(ad:Addr),u=.pointer (some ad)→∀w,(execOp (Act.eval ⟨tm,ds⟩) o).run E.P w=.ok (.value (.pointer (some (ad.add (n.toNat*k))))) w:=by
  intro ad e1;subst e1;simp[execOp,ho,hu,e0,Instr.indexAt,run_underlying ht,asIntOf,hn0,hn1,sizeOf,typeInfo,hi,hi2,Instr.sureAddr]
 have hadd:∀b c m,(⟨b,c,none⟩:Addr).add m=⟨b,c+m,none⟩:=by grind [Addr.add]
 split at h
 ·rename_i o' c';rw[M.Ae]at h;subst h
  cases h2 with
  |ptr _ _ hlt=>
   refine OpR.quiet (hrun _ rfl) ?_;rw[hadd];exact ROk.one (.ptr o' _ hlt) trivial
 ·rename_i p v k' j c';rw[M.Ae]at h;subst h
  cases h2 with
  |adr _ _ _ _ _ ad=>
   refine OpR.quiet (hrun _ rfl) (ROk.one (.adr ..) ?_);have:=h3.BU;refine⟨this.1,fun hv=>?_⟩
   obtain⟨xs,b,off,len,cap,k1,k2,k3⟩:=this.2 hv<;>grind
 ·rename_i k' xs j c';rw[M.Ae]at h;subst h
  cases h2 with
  |iadr _ _ _ _ b off cs e fz hz hb hs hk hr=>
   refine OpR.quiet (hrun _ rfl) ?_;rw[hadd,Qc6];exact ROk.one (.iadr k' xs j _ b off cs e fz hz hb hs hk hr) trivial
 trivial
theorem Aq9(R:Ax E lam z fp hd st tm w)(F:Refs st tm w lam){o:Oper}{t:TypeId}{x i:Operand}{a b:Opd}(ho:o.op=.index t x i)(ha:AE E.P x=some a)(hb:AE E.P i=some b)
  (ht:E.P.underlying t=some .string) {s:SV} {g:Bool} (hg:g=true) (h:(st.BL g (.ixS a b)).holds (·=s)):OpR E lam z st tm ds w o s:=by
 simp only[St.BL,M.Aa]at h;obtain⟨ik,n,h0,h⟩:=Hk h;obtain⟨c,h1,h⟩:=BO h;have e0:=Cf (ds:=ds) R F hg hb h0;split at h
 ·rename_i b';rw[M.Aa,M.Ak]at h;obtain⟨hn,h⟩:=h;obtain⟨hn0,hn1⟩:=hn hg;rw[M.Ae]at h;subst h;have e1:=Cf (ds:=ds) R F hg ha h1
  have hlt:n.toNat<b'.size:=zm
  have hget:b'[n.toNat]?=some (b'.data.toList.getD n.toNat 0):=by
   have e2:b'[n.toNat]?=some b'[n.toNat]:=zg
   rw[e2]
   congr 1
   rw[List.getD_eq_getElem?_getD,Qc1,Qd7 (by simp_all)];rfl
  exact OpR.quiet (v:=.int .u8 (b'.data.toList.getD n.toNat 0).toNat) (fun w=>by simp_all [execOp,Instr.index,asIntOf,run_underlying]) (ROk.lit rfl)
 trivial
theorem Arc(R:Ax E lam z fp hd st tm w)(F:Refs st tm w lam){o:Oper}{f:FuncId}{fn:Func}{caps:Array Operand}{l:List Opd}{b:Bool}(ho:o.op=.makeFunc (.func f) (bif b then caps else#[]) (bif b then#[]else caps))(hf:E.P.funcs[f]?=some fn)
  (hl:Fv E.P caps.toList=some l) {s:SV} {g:Bool} (hg:g=true) (h:(st.BL g (.mkf (fn.name,b) l)).holds (·=s)):OpR E lam z st tm ds w o s:=by
 simp only[St.BL,M.Aa]at h;rw[M.Aw]at h;obtain⟨m,hm,h⟩:=h;simp only[M.Ak]at h;obtain⟨_,h⟩:=h;rw[M.Ae]at h;subst h
 have key:∀(l:List Opd) (os:List Operand) (m:List AV),Fv E.P os=some l→(QO st g l).holds (·=m)→RVs (ctx E lam z st.hp.next) w m (os.map (Act.eval ⟨tm,ds⟩)) []:=by
  intro l
  induction l with
  |nil=>
   intro os m ho hm
   cases os with
   |nil=>simp only[QO]at hm;rw[M.Ae]at hm;subst hm;exact .nil
   |cons x r=>grind [Fv]
  |cons y l ih=>
   intro os m ho hm
   cases os with
   |nil=>grind [Fv]
   |cons x r=>
    simp only[Fv]at ho;split at ho
    ·rename_i y' l' hy hl';simp only[Qa0,List.cons.injEq]at ho;obtain⟨rfl,rfl⟩:=ho;simp only[QO,M.Aa]at hm;obtain⟨a,ha,hm⟩:=BO hm;rw[M.Aw]at hm;obtain⟨m',hm',hm⟩:=hm;rw[M.Ae]at hm;subst hm;exact .cons _ _ [] _ _ [] (EI R F hg hy ha ds).1 (ih r m' hl' hm')
    grind
 have hr:=key l caps.toList m hl hm
 have e:caps.map (Act.eval ⟨tm,ds⟩)=(caps.toList.map (Act.eval ⟨tm,ds⟩)).toArray:=by
  grind
 cases b with
 |false=>
  refine OpR.quiet (v:=.func (.func f) #[] (caps.map (Act.eval ⟨tm,ds⟩))) (fun w=>by simp[execOp,ho,Instr.makeFunc]) (ROk.one ?_ trivial);rw[e];exact .clo (fn.name,false) m f fn _ hf rfl hr
 |true=>
  refine OpR.quiet (v:=.func (.func f) (caps.map (Act.eval ⟨tm,ds⟩)) #[]) (fun w=>by simp[execOp,ho,Instr.makeFunc]) (ROk.one ?_ trivial);rw[e];exact .clo (fn.name,true) m f fn _ hf rfl hr
end
end Go.VS
namespace Go.VS
section
variable{E:Env}{lam:Nat→Nat}{z:Nat→Prop}{fp:Ky→List Nat}{hd:Hands}{st:St}{tm:Array Value}{w:World}{ds:List Deferred}
theorem Iq(R:Ax E lam z fp hd st tm w)(F:Refs st tm w lam){g:Bool}(hg:g=true){lo hi:Option Operand}{lo' hi':Option Opd}(hlo:Jl E.P lo=some lo')(hhi:Jl E.P hi=some hi')
  {len:Nat} {K:Nat×Nat→Prop} (h:(I8 st g len lo' hi').holds K) (isS:Bool) (cap:Nat) (hc:len≤cap):
  ∃l h',l≤h'∧h'≤len∧K (l,h')∧∀w,(Instr.sliceBounds isS len cap (lo.map (Act.eval ⟨tm,ds⟩)) (hi.map (Act.eval ⟨tm,ds⟩)) none).run E.P w=.ok (l,h',cap) w:=by
 unfold I8 at h;rw[M.Aa]at h
 have step1:∃h',h'≤len∧(AiH st g h' lo'>>=fun l=>pure (l,h'):M (Nat×Nat)).holds K∧
   ((hi.map (Act.eval ⟨tm,ds⟩)=none∧h'=len)∨∃k n,hi.map (Act.eval ⟨tm,ds⟩)=some (.int k n)∧0≤n∧n≤cap∧h'=n.toNat):=by
  cases hi with
  |none=>
   grind [Jl,AkW,M.Ae]
  |some x=>
   simp only[Jl,Qa2]at hhi;obtain⟨y,hy,rfl⟩:=hhi;simp only[AkW,M.Aa]at h;obtain⟨k,n,h1,h⟩:=Hk h;rw[M.Ak]at h;obtain⟨hn,h⟩:=h;obtain⟨hn0,hn1⟩:=hn hg;rw[M.Ae]at h;have e:=Cf (ds:=ds) R F hg hy h1
   grind [M.Aa]
 obtain⟨h',hh',h,hr⟩:=step1
 have step2:∃l,l≤h'∧K (l,h')∧((lo.map (Act.eval ⟨tm,ds⟩)=none∧l=0)∨∃k n,lo.map (Act.eval ⟨tm,ds⟩)=some (.int k n)∧0≤n∧n≤h'∧l=n.toNat):=by
  cases lo with
  |none=>
   grind [Jl,AiH,M.Aa,M.Ae]
  |some x=>
   simp only[Jl,Qa2]at hlo;obtain⟨y,hy,rfl⟩:=hlo;simp only[AiH,M.Aa]at h;obtain⟨k,n,h1,h⟩:=Hk h;rw[M.Ak]at h;obtain⟨hn,h⟩:=h;obtain⟨hn0,hn1⟩:=hn hg;rw[M.Ae,M.Ae]at h;have e:=Cf (ds:=ds) R F hg hy h1
   grind
 obtain⟨l,hl,hK,hr2⟩:=step2;refine⟨l,h',hl,hh',hK,fun w=>?_⟩
 rcases hr with⟨e1,rfl⟩|⟨k,n,e1,hn0,hn1,rfl⟩<;>rcases hr2 with⟨e2,rfl⟩|⟨k2,n2,e2,hm0,hm1,rfl⟩<;>
  simp[Instr.sliceBounds,Instr.sliceBound,asIntOf, *]
 grind
theorem Are(R:Ax E lam z fp hd st tm w)(F:Refs st tm w lam){o:Oper}{t:TypeId}{x:Operand}{lo hi:Option Operand}{lo' hi':Option Opd}{a:Opd}(ho:o.op=.slice t x lo hi none)(ha:AE E.P x=some a)
  (hlo:Jl E.P lo=some lo') (hhi:Jl E.P hi=some hi') (ht:E.P.underlying t=some .string) {s:SV} {g:Bool} (hg:g=true) (h:(st.BL g (.slS a lo' hi')).holds (·=s)):OpR E lam z st tm ds w o s:=by
 simp only[St.BL,M.Aa]at h;obtain⟨c,h1,h⟩:=BO h;split at h
 ·rename_i b;rw[M.Aa]at h;have e1:=Cf (ds:=ds) R F hg ha h1;obtain⟨l,h',hl,hh,h,hr⟩:=Iq (ds:=ds) R F hg hlo hhi h false b.size (Qa7 _);dsimp only at h;rw[M.Ae]at h;subst h;exact OpR.quiet (v:=.string (b.extract l h')) (fun w=>by simp_all [execOp,Instr.sliceAt,run_underlying,Instr.slice]) (ROk.lit rfl)
 trivial
theorem HP(k:Nat):∀(xs:List (List AV)),(∀x∈xs,x.length=k)→∀(l n:Nat),((xs.drop l).take n).flatten=(xs.flatten.drop (l*k)).take (n*k)
 |[],_,l,n=>zsz
 |x::xs,h,0,0=>zsz
 |x::xs,h,0,n+1=>by
  have hx:=h x zsz;have ih:=HP k xs (fun y hy=>h y zg) 0 n;simp only[List.drop_zero,List.take_succ_cons,Qb8,Nat.zero_mul]at ih⊢
  grind [List.take_append,Qc5,Qc3]
 |x::xs,h,l+1,n=>by
  have hx:=h x zsz;have ih:=HP k xs (fun y hy=>h y zg) l n;simp only[List.drop_succ_cons,Qb8]
  rw[ih,Qd8,hx,Qa8 (as:=x) (by rw[hx,Qc3];omega),Qd3]<;>grind
theorem MZ{α:Type}(l n:Nat)(xs:List α):window l n xs=(xs.drop l).take n:=by
 grind [window]
theorem RVs.drop{C:Ctx}{w:World}{l:List AV}{m:List Value}{f:List Nat}(h:RVs C w l m f)(n:Nat):∃f1 f2,f=f1++f2∧RVs C w (l.drop n) (m.drop n) f2:=by
 obtain⟨m1,m2,f1,f2,rfl,rfl,h1,h2⟩:=RVs.split (l.take n) (l':=l.drop n) (by rw[Qb9];exact h)
 refine⟨f1,f2,rfl,?_⟩
 rcases Qc0 n l.length with hn|hn
 ·grind [h1.length]
 ·have e:l.drop n=[]:=Qa8 hn;rw[e]at h2⊢;cases h2;rw[List.append_nil]
  have:m1.length≤n:=by grind [h1.length]
  rw[Qa8 this];exact .nil
theorem RVs.take{C:Ctx}{w:World}{l:List AV}{m:List Value}{f:List Nat}(h:RVs C w l m f)(n:Nat):∃f1 f2,f=f1++f2∧RVs C w (l.take n) (m.take n) f1:=by
 obtain⟨m1,m2,f1,f2,rfl,rfl,h1,h2⟩:=RVs.split (l.take n) (l':=l.drop n) (by rw[Qb9];exact h)
 refine⟨f1,f2,rfl,?_⟩
 rcases Qc0 n l.length with hn|hn
 ·grind [h1.length]
 ·have e:l.drop n=[]:=Qa8 hn;rw[e]at h2;cases h2
  grind [h1.length,List.length_take,Qc5]
theorem Tl(cs:Array Value)(off len k l n:Nat)(h:l+n≤len):(((cs.toList.drop off).take (len*k)).drop (l*k)).take (n*k)=(cs.toList.drop (off+l*k)).take (n*k):=by
 rw[Qe3,List.take_take,Qb2]
 congr 1
 have:(l+n)*k≤len*k:=Qb5 k h
 grind
theorem Ard(R:Ax E lam z fp hd st tm w)(F:Refs st tm w lam){o:Oper}{t e:TypeId}{x:Operand}{lo hi:Option Operand}{lo' hi':Option Opd}{a:Opd}{k:Nat}(ho:o.op=.slice t x lo hi none)(ha:AE E.P x=some a)
  (hlo:Jl E.P lo=some lo') (hhi:Jl E.P hi=some hi') (ht:E.P.underlying t=some (.slice e)) (hk:sizeOf? E.P e=some k) {s:SV} {g:Bool} (hg:g=true)
  (h:(st.BL g (.slK k a lo' hi')).holds (·=s)):OpR E lam z st tm ds w o s:=by
 simp only[St.BL,M.Aa]at h;obtain⟨c,h1,h⟩:=BO h;obtain⟨h2,h3⟩:=EI R F hg ha h1 ds;generalize hu:Act.eval ⟨tm,ds⟩ x=u at h2 h3;simp only[sizeOf?,Qa2]at hk;obtain⟨ti,hi1,hi2⟩:=hk
 have hrun:∀(ad:Option Addr) (len cap l h':Nat),u=.slice ad len cap→(∀w,(Instr.sliceBounds true len cap (lo.map (Act.eval ⟨tm,ds⟩)) (hi.map (Act.eval ⟨tm,ds⟩)) none).run E.P w=.ok (l,h',cap) w)→
   ∀w,(execOp (Act.eval ⟨tm,ds⟩) o).run E.P w=.ok (.value (.slice (if cap=l then ad else ad.map (·.add (l*k))) (h' -l) (cap -l))) w:=by
  intro ad len cap l h' e1 hr;subst e1;simp[execOp,ho,hu,Instr.sliceAt,run_underlying ht,Instr.slice,hr,sizeOf,typeInfo,hi1,hi2]
 have hadd:∀b c m,(⟨b,c,none⟩:Addr).add m=⟨b,c+m,none⟩:=by grind [Addr.add]
 split at h
 ·rename_i p v k' lo0 n;split at h
  ·rename_i k2 xs' hat;simp only[M.Aa,M.Ak]at h;obtain⟨hv,hkk,h⟩:=h;subst hkk;obtain⟨xs,v0,k1,k3,k4⟩:=(h3.BU).2 hv
   rcases k4 with⟨_,rfl,rfl,rfl⟩|⟨bk,off,len,cap,off',cap',rfl,rfl,k5,k6,k7,k8⟩
   ·obtain⟨l,h',hl,hh,h,hr⟩:=Iq (ds:=ds) R F hg hlo hhi h true 0 (Qa7 _);dsimp only at h;rw[M.Ae]at h;subst h
    obtain rfl:l=0:=zm
    obtain rfl:h'=0:=zm
    refine OpR.quiet (hrun _ _ _ _ _ rfl hr) ?_;simp only[if_true];exact ROk.one (.ref ..) ⟨(h3.BU).1,fun _=>⟨xs,_,k1,k3,.inl ⟨‹_›,rfl,rfl,rfl⟩⟩⟩
   ·obtain⟨l,h',hl,hh,h,hr⟩:=Iq (ds:=ds) R F hg hlo hhi h true cap' k6;dsimp only at h;rw[M.Ae]at h;subst h;refine OpR.quiet (hrun _ _ _ _ _ rfl hr) ?_
    have hlc:l≤cap':=zm
    by_cases hcl:cap'=l
    ·rw[if_pos hcl]
     exact ROk.one (.ref ..) ⟨(h3.BU).1,fun _=>⟨xs,_,k1,k3,.inr ⟨bk,off,len,cap,off',cap' -l,rfl,rfl,zm,zm,by
      grind,fun h0=>absurd zm h0⟩⟩⟩
    ·rw[if_neg hcl];simp only[Qa4,hadd];have hoff:=k8 zm;refine ROk.one (.ref ..) ⟨(h3.BU).1,fun _=>⟨xs,_,k1,k3,.inr ⟨bk,off,len,cap,off'+l*k',cap' -l,rfl,rfl,zm,zm,?_,fun _=>?_⟩⟩⟩
     ·have:l*k'+(cap' -l)*k'=cap'*k':=by rw[←Nat.add_mul]<;>grind
      omega
     grind
  trivial
 ·rename_i τ k' xs;simp only[M.Aa,M.Ak]at h;obtain⟨hkk,hτ,h⟩:=h;subst hkk
  cases h2 with
  |slNil=>
   obtain⟨l,h',hl,hh,h,hr⟩:=Iq (ds:=ds) R F hg hlo hhi h true 0 (Qa7 _);dsimp only at h;rw[M.Ae]at h;subst h
   obtain rfl:l=0:=zg
   obtain rfl:h'=0:=zg
   refine OpR.quiet (hrun _ _ _ _ _ rfl hr) ?_;simp only[if_true];exact ROk.one (.slNil ..) trivial
  |shrE _ _ ad cap hte=>
   obtain⟨l,h',hl,hh,h,hr⟩:=Iq (ds:=ds) R F hg hlo hhi h true cap (Nat.zero_le _);dsimp only at h;rw[M.Ae]at h;subst h
   obtain rfl:h'=0:=zg
   obtain rfl:l=0:=zm
   refine OpR.quiet (hrun _ _ _ _ _ rfl hr) ?_;have hw:window 0 (0 -0) ([]:List (List AV))=[]:=rfl;rw[hw]
   by_cases hc0:cap=0
   ·rw[if_pos hc0];exact ROk.one (.shrE _ _ _ _ hte) trivial
   ·rw[if_neg hc0];exact ROk.one (.shrE _ _ _ _ hte) trivial
  |shr _ _ _ bk off cap cs e' fz _ hz him hb' hs hc hkk hr'=>
   obtain⟨l,h',hl,hh,h,hr⟩:=Iq (ds:=ds) R F hg hlo hhi h true cap hc;dsimp only at h;rw[M.Ae]at h;subst h;refine OpR.quiet (hrun _ _ _ _ _ rfl hr) ?_;have hw:window l (h' -l) xs=(xs.drop l).take (h' -l):=MZ ..
   have hlen:((xs.drop l).take (h' -l)).length=h' -l:=zg
   have hk':∀y∈(xs.drop l).take (h' -l),y.length=k':=fun y hy=>hkk y (Qe5 (Qd4 hy))
   obtain⟨f1,f2,hf,hd1⟩:=hr'.drop (l*k');have hf':=List.append_eq_nil_iff.1 hf.symm;rw[hf'.2]at hd1;obtain⟨f3,f4,hf2,hd2⟩:=hd1.take ((h' -l)*k');rw[(List.append_eq_nil_iff.1 hf2.symm).1,Tl cs off xs.length k' l (h' -l) zm]at hd2;rw[←HP k' xs hkk]at hd2
   have hbnd:off+l*k'+(h' -l)*k'≤cs.size:=by
    have h5:l*k'+(h' -l)*k'=h'*k':=by rw[←Nat.add_mul]<;>grind
    have h6:=Qb5 k' hh;omega
   have fin:∀ad,(ad=⟨bk,off+l*k',none⟩∨h' -l=0∧ad=⟨bk,off,none⟩)→RV (ctx E lam z st.hp.next) w (.sl τ k' (window l (h' -l) xs)) (.slice (some ad) (h' -l) (cap -l)) []:=by
    intro ad had;rw[hw]
    rcases had with rfl|⟨h0,rfl⟩
    ·have:=RV.shr (C:=ctx E lam z st.hp.next) (w:=w) τ k' ((xs.drop l).take (h' -l)) bk (off+l*k') (cap -l) cs e' fz hτ hz him hb' zg zg hk' zg
     grind
    ·have hnil:(xs.drop l).take (h' -l)=[]:=by grind
     have:=RV.shr (C:=ctx E lam z st.hp.next) (w:=w) τ k' [] bk off (cap -l) cs e' fz hτ hz him hb' zg zsz zsz (by simpa using RVs.nil)
     grind
   by_cases hcl:cap=l
   ·rw[if_pos hcl];exact ROk.one (fin _ (.inr ⟨zm,rfl⟩)) trivial
   ·rw[if_neg hcl];simp only[Qa4,hadd];exact ROk.one (fin _ (.inl rfl)) trivial
 ·simp only[M.Aa]at h;obtain⟨rfl,_⟩:=JD h2;obtain⟨l,h',hl,hh,h,hr⟩:=Iq (ds:=ds) R F hg hlo hhi h true 0 (Qa7 _);rw[M.Ae]at h;subst h
  obtain rfl:l=0:=zm
  obtain rfl:h'=0:=zm
  refine OpR.quiet (hrun _ _ _ _ _ rfl hr) ?_<;>grind [ROk.lit]
 trivial
theorem SZ{α:Type}(zs:List α):∀n,(Qa3 n zs).flatten.length=n*zs.length
 |0=>zsz
 |n+1=>by simp_all
theorem SA(zs:Array Value)(hz:0<zs.size):∀n,(madeCells zs (n*zs.size)).toList=(Qa3 n zs.toList).flatten:=by
 intro n;apply Qb4;intro i
 have hlen:(Qa3 n zs.toList).flatten.length=n*zs.size:=by simp_all
 rcases Qc0 i (n*zs.size)with hi|hi
 ·have h1:(madeCells zs (n*zs.size)).toList[i]?=some (zs[i%zs.size]!):=by
   grind [madeCells]
  rw[h1];have hm:i%zs.size<zs.size:=Nat.mod_lt _ hz
  have hd:i/zs.size<n:=by rw[Nat.div_lt_iff_lt_mul hz];exact hi
  have h2:=(Cr? zs.size (Qa3 n zs.toList) (fun x hx=>zg) (i/zs.size) (i%zs.size) (zs[i%zs.size]) (by
   grind)).1
  grind [Qd0,Nat.div_add_mod]
 grind [size_madeCells]
theorem RVs.lits{C:Ctx}{w:World}:∀(l:List Value),(l.all Value.oneCell'=true)→RVs C w (l.map .lit) l []
 |[],_=>.nil
 |v::l,h=>by
  simp only[List.all_cons,Bool.and_eq_true]at h;exact .cons _ _ [] _ _ [] (.lit v h.1) (RVs.lits l h.2)
theorem H4(n:Nat)(zs:List Value):(Qa3 n (zs.map AV.lit)).flatten=(Qa3 n zs).flatten.map AV.lit:=by
 simp_all
theorem Ii(p:Value→Bool)(zs:List Value)(h:zs.all p=true):∀n,(Qa3 n zs).flatten.all p=true
 |0=>rfl
 |n+1=>zg
theorem M1{P:Program}{t:TypeId}{zs:List Value}(h:zeroOf? P t=some zs):∃i z,P.info? t=some i∧i.zero=some z∧z.cells.toList=zs∧zs.all Value.oneCell'=true:=by
 grind [zeroOf?,Qa0,Option.bind_eq_some_iff]
theorem ApV(R:Ax E lam z fp hd st tm w)(F:Refs st tm w lam){o:Oper}{t e:TypeId}{x y:Operand}{a b:Opd}{k by_:Nat}{zs:List Value}(ho:o.op=.makeSlice t x y)(ha:AE E.P x=some a)(hb:AE E.P y=some b)
  (ht:E.P.underlying t=some (.slice e)) (hk:sizeOf? E.P e=some k) (hby:bytesOf? E.P e=some by_) (hz:zeroOf? E.P e=some zs) (hzk:zs.length=k∧0<k) {s:SV} {g:Bool} (hg:g=true)
  (h:(st.BL g (.mkSl k by_ zs a b)).holds (·=s)):OpR E lam z st tm ds w o s:=by
 simp only[St.BL,M.Aa]at h;obtain⟨ik,l,h0,h⟩:=Hk h;obtain⟨ik',c,h1,h⟩:=Hk h;simp only[M.Ak]at h;obtain⟨hn,hc63,_,h⟩:=h;obtain⟨hl0,hlc,hbytes⟩:=hn hg;have hc63:=hc63 hg;rw[M.Ae]at h;subst h;have e0:=Cf (ds:=ds) R F hg ha h0;have e1:=Cf (ds:=ds) R F hg hb h1;obtain⟨i,zv,hi,hiz,hzl,hza⟩:=M1 hz
 simp only[sizeOf?,bytesOf?,hi,Qa4,Qa0]at hk hby
 have hsz:zv.cells.size=k:=zg
 have hr:=run_make (P:=E.P) w t e i zv ht hi hiz ik ik' l c hl0 hlc zg hc63
 have hmc:(madeCells zv.cells (c.toNat*i.size)).toList=(Qa3 c.toNat zs).flatten:=by
  grind [SA]
 refine⟨.slice (some ⟨w.heap.size,0,none⟩) l.toNat c.toNat,w.alloc (.cells (madeCells zv.cells (c.toNat*i.size)) e),by simp_all [execOp],⟨[w.heap.size],Moves.alloc _ _ _,?_,zsz,?_,?_⟩,fun hq=>(by grind [Ma,Op.quiet]),fun hq=>(by grind [Op.still,Ma,Op.quiet])⟩
 ·have hlen:(Qa3 l.toNat (zs.map AV.lit)).length=l.toNat:=List.length_replicate
  have hcells:(((madeCells zv.cells (c.toNat*i.size)).toList.drop 0).take (l.toNat*k))=(Qa3 l.toNat zs).flatten:=by
   rw[hmc,List.drop_zero]
   have:c.toNat=l.toNat+(c.toNat -l.toNat):=zm
   rw[this,←List.replicate_append_replicate,List.flatten_append]<;>grind [SZ]
  have:=RV.own (C:=ctx E lam z st.hp.next) (w:=w.alloc (.cells (madeCells zv.cells (c.toNat*i.size)) e)) k (Qa3 l.toNat (zs.map AV.lit)) w.heap.size 0 c.toNat (madeCells zv.cells (c.toNat*i.size)) e []
   (heap_alloc_new w _) (by grind [size_madeCells]) zg (by grind [maxLen]) (fun x hx=>zg)
   (by grind [H4,RVs.lits,Ii])
  rw[hlen]at this;trivial
 ·simp_all
 ·exact ES.one trivial
end
end Go.VS
namespace Go.VS
section
variable{E:Env}{lam:Nat→Nat}{z:Nat→Prop}{fp:Ky→List Nat}{hd:Hands}{st:St}{tm:Array Value}{w:World}{ds:List Deferred}
theorem AcZ{P:Program}{t:TypeId}{agg:Bool}(h:EO? P t=some agg)(w:World):(isAgg t).run P w=.ok agg w:=by
 unfold EO? at h;unfold isAgg;split at h
 ·simp_all [run_underlying]
 ·simp_all [run_underlying]
 ·simp_all [Sem.run_bind,run_underlying,Result.andThen_ok]
 grind
theorem PS{P:Program}{t:TypeId}{n:Nat}(h:sizeOf? P t=some n)(w:World):(sizeOf t).run P w=.ok n w:=by
 simp only[sizeOf?,Qa2]at h;obtain⟨i,hi,h2⟩:=h;simp_all [sizeOf,typeInfo]
def Im(agg:Bool)(m:List Value):Value:=if agg then .agg m.toArray else m.headD undef
theorem Ta{P:Program}{t:TypeId}{agg:Bool}{n:Nat}(ha:EO? P t=some agg)(hn:sizeOf? P t=some n)(h1:agg=true∨n=1)(w:World)(b o:Nat)(m:List Value)(hm:m.length=n)
  (hc:∀j v,m[j]?=some v→w.cell? ⟨b,o+j,none⟩=some v):(loadVar t ⟨b,o,none⟩).run P w=.ok (Im agg m) w:=by
 have hadd:∀j,(⟨b,o,none⟩:Addr).add j=⟨b,o+j,none⟩:=by grind [Addr.add]
 unfold loadVar;simp only[Sem.run_bind,AcZ ha,Result.andThen_ok]
 cases agg with
 |true=>
  simp only[if_true,Sem.run_bind,PS hn,Result.andThen_ok];have:=run_loadCells_list (P:=P) (w:=w) ⟨b,o,none⟩ m (fun j v hj=>zg);simp_all [Im]
 |false=>
  rcases h1 with h1|h1
  ·cases h1
  ·subst h1
   match m,hm with
   |[v],_=>
    have:=hc 0 v rfl;simp_all [Im]
theorem SD{C:Ctx}{agg:Bool}{l:List AV}{m:List Value}{f:List Nat}(h:RVs C w l m f)(h1:agg=true∨l.length=1):RSV C w (Abm agg l) (Im agg m) f:=by
 cases agg with
 |true=>exact⟨m.toArray,rfl,zg⟩
 |false=>
  rcases h1 with h1|h1
  ·cases h1
  ·match l,h1,h with
   |[a],_,h=>obtain⟨v,rfl,h'⟩:=RVs.BU h;exact h'
theorem PJ{agg:Bool}{l:List AV}{m:List Value}(hl:l.length=m.length)(h1:agg=true∨l.length=1)(h:∀(j:Nat) (a:AV) (u:Value),l[j]?=some a→m[j]?=some u→Bq st tm w lam a u):
  ES st tm w lam (Abm agg l) (Im agg m):=by
 cases agg with
 |true=>
  trivial
 |false=>
  rcases h1 with h1|h1
  ·cases h1
  ·match l,m,h1,hl,h with
   |[a],[v],_,_,h=>trivial
theorem sub_eq(l:List AV)(c n k:Nat)(h:l.length=k):sub l c n k=(l.drop c).take n:=by
 grind [sub]
theorem AV.PA:∀(p:List Stp) (a:AV) (q:List Stp),a.at (p++q)=(a.at p).bind (·.at q)
 |[],a,q=>by rfl
 |s::r,a,q=>by
  cases a with
  |sl τ k xs=>
   cases τ with
   |own=>
    simp only[Qc8,AV.at];split
    ·cases(xs[s.i]?).bind (·[s.c]?)with
     |none=>rfl
     |some a1=>simp only[Qa1];exact AV.PA r a1 q
    ·rfl
   |_=>rfl
  |_=>simp[AV.at]
theorem Qn(w:World):∀(p:List Stp) (v:Value) (q:List Stp),DK w v (p++q)=(DK w v p).bind (DK w · q)
 |[],v,q=>by rfl
 |s::r,v,q=>by
  match v with
  |.slice (some ad) len cap=>
   simp only[Qc8,DK]
   cases w.cell? ⟨ad.block,ad.off+s.i*s.k+s.c,none⟩with
   |none=>rfl
   |some u=>simp only[Qa1];exact Qn w r u q
  |.slice none len cap=>rfl
  |.bool _=>rfl
  |.int _ _=>rfl
  |.float _ _=>rfl
  |.complex _ _ _=>rfl
  |.string _=>rfl
  |.pointer _=>rfl
  |.map _=>rfl
  |.chan _=>rfl
  |.func _ _ _=>rfl
  |.nilFunc=>rfl
  |.iface _ _=>rfl
  |.nilIface=>rfl
  |.agg _=>rfl
  |.tuple _=>rfl
theorem Ax.Pz(R:Ax E lam z fp hd st tm w){p:Place}{a:AV}(h:st.at p=some a):∃u f,conc st tm w lam p=some u∧RV (ctx E lam z st.hp.next) w a u f∧∀b,b∈f→b∈fp p.root.key:=by
 simp only[St.at]at h
 cases hr:st.root p.root with
 |none=>grind
 |some a0=>
  rw[hr]at h;simp only[Qa1]at h;obtain⟨v,f1,fa,f2,hv,ra,hf,_⟩:=R.Pe hr
  obtain⟨u,g1,fb,g2,hc,rb,hfa,_⟩:=RV.lens p.path ra h<;>grind [conc]
theorem OP(k:Nat):∀(xs:List (List AV)),(∀x∈xs,x.length=k)→∀(i c n:Nat),i<xs.length→c+n≤k→((xs.getD i []).drop c).take n=(xs.flatten.drop (i*k+c)).take n
 |[],_,i,c,n,hi,_=>zg
 |x::xs,h,0,c,n,_,hcn=>by
  grind
 |x::xs,h,i+1,c,n,hi,hcn=>by
  have hx:=h x zsz;have ih:=OP k xs (fun y hy=>h y zg) i c n zg hcn;simp only[List.getD_cons_succ,Qb8]
  rw[ih,Qd8,Qa8 (as:=x) (by rw[hx,Qc3];omega),Qd3,hx]<;>grind
theorem OS{k:Nat}{xs:List (List AV)}(h:∀x∈xs,x.length=k){i:Nat}(hi:i<xs.length):(xs.getD i []).length=k:=by
 grind
def NF(mk:Nat→Nat→AV):AV→AV
 |.sl .own k xs=>mk k xs.length
 |a=>XS a
theorem D8(mk:Nat→Nat→Nat→AV):∀(l:List AV) (j:Nat),(HY mk j l).length=l.length
 |[],_=>rfl
 |a::l,j=>by simp[HY,D8 mk l (j+1)]
theorem SP(mk:Nat→Nat→Nat→AV)(j:Nat)(a:AV)(l:List AV):HY mk j (a::l)=NF (mk j) a::HY mk (j+1) l:=by
 rfl
theorem O6(mk:Nat→Nat→Nat→AV):∀(l:List AV) (j i:Nat),(HY mk j l)[i]?=(l[i]?).map (NF (mk (j+i)))
 |[],_,_=>by rfl
 |a::l,j,0=>by rfl
 |a::l,j,i+1=>by
  rw[SP];simp only[Qe0];rw[O6 mk l (j+1) i,show j+1+i=j+(i+1)from zm]
theorem Agf{C:Ctx}{w:World}{a:AV}{v:Value}{f:List Nat}(h:RV C w a v f){mk:Nat→Nat→AV}(hmk:∀k n,∃p ver lo,mk k n=.ref p ver k lo n):RV C w (NF mk a) v []:=by
 cases a with
 |sl τ k xs=>
  cases τ with
  |own=>exact AbH h hmk
  |imm=>have:=h.Fe rfl;subst this;exact h
  |brw=>have:=h.Fe rfl;subst this;exact h
 |ref p ver k lo n=>exact .dead v h.HX
 |adr p ver k i c=>exact .dead v h.HX
 |_=>have:=h.Fe rfl;subst this;exact h
theorem O4{C:Ctx}{w:World}{mk:Nat→Nat→Nat→AV}(hmk:∀j k n,∃p ver lo,mk j k n=.ref p ver k lo n):∀{l:List AV} {m:List Value} {f:List Nat} (j:Nat),RVs C w l m f→RVs C w (HY mk j l) m []
 |_,_,_,_,.nil=>.nil
 |_,_,_,j,.cons a v f l m g h t=>by
  rw[SP];exact .cons _ _ [] _ _ [] (Agf h (hmk j)) (O4 hmk (j+1) t)
theorem AiK{C:Ctx}{w:World}:∀{l:List AV} {m:List Value},RVs C w l m []→RVs C w (l.map XS) m []
 |_,_,h=>by
  generalize hf:([]:List Nat)=f at h
  induction h using RVs.rec (motive_1:=fun _ _ _ _=>True)with
  |nil=>exact .nil
  |cons a v f l m g h t _ ih=>
   have:=List.append_eq_nil_iff.1 hf.symm;have h1:=this.1;have h2:=this.2;subst h1;subst h2;simp only[List.map_cons];refine .cons _ _ [] _ _ [] ?_ (ih rfl)
   cases a<;>first|exact h|exact .dead v h.HX
  |_=>trivial
theorem Bq.NF{mk:Nat→Nat→AV}{a:AV}{u:Value}(h:∀k xs,a=.sl .own k xs→Bq st tm w lam (mk k xs.length) u):Bq st tm w lam (VS.NF mk a) u:=by
 cases a with
 |sl τ k xs=>
  cases τ with
  |own=>exact h k xs rfl
  |_=>trivial
 |_=>exact trivial
theorem Als(R:Ax E lam z fp hd st tm w)(F:Refs st tm w lam){o:Oper}{t:TypeId}{x:Operand}{a:Opd}{agg:Bool}{n:Nat}(ho:o.op=.load t x)(ha:AE E.P x=some a)(hagg:EO? E.P t=some agg)
  (hn:sizeOf? E.P t=some n) (h1n:agg=true∨n=1) {s:SV} {g:Bool} (hg:g=true) (h:(st.BL g (.load agg n a)).holds (·=s)):OpR E lam z st tm ds w o s:=by
 simp only[St.BL,M.Aa]at h;obtain⟨c,h1,h⟩:=BO h;obtain⟨h2,h3⟩:=EI R F hg ha h1 ds;generalize hu:Act.eval ⟨tm,ds⟩ x=u at h2 h3
 have hrun:∀(b off:Nat) (m:List Value),u=.pointer (some ⟨b,off,none⟩)→m.length=n→(∀j v,m[j]?=some v→w.cell? ⟨b,off+j,none⟩=some v)→
   (execOp (Act.eval ⟨tm,ds⟩) o).run E.P w=.ok (.value (Im agg m)) w:=by
  intro b off m e1 hm hc;have:=Ta hagg hn h1n w b off m hm hc;simp_all [execOp,Instr.loadAt,Instr.sureAddr]
 have takeGet:∀(cs:Array Value) (off n j:Nat) (v:Value),((cs.toList.drop off).take n)[j]?=some v→cs[off+j]?=some v:=fun cs off n j v hj=>(FX cs off n j v hj).1
 split at h
 ·
  rename_i o' c'
  cases hg':st.hp.get o' with
  |none=>simp only[hg']at h;trivial
  |some l=>
   simp only[hg',M.Aa,M.Ak]at h;obtain⟨hcn,h⟩:=h;rw[M.Ae]at h;subst h;obtain⟨hlt,cs,e,f,hb,hr,hfp⟩:=R.keys (.o o') l hg';have hb':w.heap[lam o']?=some (.cells cs e (0,0)):=hb;have hlen:=hr.length;rw[sub_eq l c' n l.length rfl];obtain⟨f1,f2,_,hd1⟩:=hr.drop c';obtain⟨f3,f4,_,hd2⟩:=hd1.take n
   have hml:((cs.toList.drop c').take n).length=n:=zg
   have hll:((l.drop c').take n).length=n:=zg
   cases h2 with
   |ptr _ _ hlt'=>
    refine⟨_,w,hrun (lam o') c' ((cs.toList.drop c').take n) rfl hml (fun j v hj=>by grind [Af]),ROk.same ?_ ?_,fun hq=>(by grind [Ma,Op.quiet]),fun _=>rfl⟩
    ·grind [SD,O4,D8]
    ·refine PJ (by grind [D8]) (by grind [D8]) ?_;intro j a' u' hj hu';rw[O6,Qe7]at hj
     cases hlj:((l.drop c').take n)[j]?with
     |none=>grind
     |some a0=>
      simp only[hlj,Qa4,Qa0]at hj
      have hl2:l[c'+j]?=some a0:=by
       grind
      obtain⟨m1,v,m2,q1,qa,q2,hm,hlm,_,_,ra,_⟩:=hr.nth hl2
      have hcv:cs[c'+j]?=some v:=by rw[←Qc1,hm,Qc2 zm];simp[hlm]
      have huv:u'=v:=zg
      subst huv;subst hj
      refine Bq.NF fun k xs e0=>?_
      subst e0;refine⟨Qa7 _,fun _=>⟨xs,u',?_,?_,Win.self ra⟩⟩
      ·grind [St.at,St.root,AV.at]
      grind [conc,BE,Af,DK]
 ·
  rename_i p v k i c';split at h
  ·rename_i k' xs hat;simp only[M.Aa,M.Ak]at h;obtain⟨hv,hkk,hi,hcn,h⟩:=h;subst hkk;have hi:=hi hg;rw[M.Ae]at h;subst h;obtain⟨xs',b,off,len,cap,k1,k2,k3⟩:=(h3.BU).2 hv;rw[hat]at k1
   obtain rfl:xs=xs':=zg
   obtain⟨u2,f,hcu,hru,_⟩:=R.Pz hat;rw[k2]at hcu;obtain rfl:_=u2:=Option.some.inj hcu
   cases hru with
   |shr _ _ _ _ _ _ _ _ _ ht=>grind
   |shrE _ _ _ _ ht=>grind
   |own _ _ _ _ _ cs e f hb hs hc hm hkl hr=>
    rw[sub_eq _ c' n k' (OS hkl hi)];have hfl:=OP k' xs hkl i c' n hi hcn;rw[hfl];obtain⟨f1,f2,_,hd1⟩:=hr.drop (i*k'+c');obtain⟨f3,f4,_,hd2⟩:=hd1.take n
    have hik:i*k'+k'≤xs.length*k':=by rw[←Qc3];exact Qb5 _ hi
    have hcells:((((cs.toList.drop off).take (xs.length*k')).drop (i*k'+c')).take n)=(cs.toList.drop (off+i*k'+c')).take n:=by
     grind [Qe3,Qb2,Nat.min_eq_left,Qc6]
    rw[hcells]at hd2
    have hll:((xs.flatten.drop (i*k'+c')).take n).length=n:=by
     grind
    have hml:((cs.toList.drop (off+i*k'+c')).take n).length=n:=by grind [hd2.length]
    refine⟨_,w,hrun b (off+i*k'+c') _ k3 hml (fun j v hj=>by grind [Af]),ROk.same ?_ ?_,fun hq=>(by grind [Ma,Op.quiet]),fun _=>rfl⟩
    ·grind [SD,O4,D8]
    ·refine PJ (by grind [D8]) (by grind [D8]) ?_;intro j a' u' hj hu';rw[O6,Qe7]at hj;rw[←hfl]at hj
     cases hlj:(((xs.getD i []).drop c').take n)[j]?with
     |none=>grind
     |some a0=>
      simp only[hlj,Qa4,Qa0]at hj;subst hj
      refine Bq.NF fun k0 xs0 e0=>?_
      subst e0
      have hl2:(xs[i]?).bind (·[c'+j]?)=some (.sl .own k0 xs0):=by
       grind
      have hat2:st.at ⟨p.root,p.path++[⟨i,k',c'+j⟩]⟩=some (.sl .own k0 xs0):=by
       simp only[St.at]at hat⊢
       cases hr0:st.root p.root<;>grind [AV.PA,AV.at]
      have hcu:cs[off+i*k'+c'+j]?=some u':=takeGet cs _ n j u' hu'
      have hconc:conc st tm w lam ⟨p.root,p.path++[⟨i,k',c'+j⟩]⟩=some u':=by
       simp only[conc]at k2⊢
       cases hrv:BE st tm w lam p.root<;>grind [Qn,DK,Af]
      refine⟨zg,fun _=>⟨xs0,u',hat2,hconc,?_⟩⟩
      obtain⟨u3,f',hcu3,hru3,_⟩:=R.Pz hat2<;>grind [Win.self]
  trivial
 ·
  rename_i k xs i c';simp only[M.Aa,M.Ak]at h;obtain⟨hi,hcn,h⟩:=h;have hi:=hi hg;rw[M.Ae]at h;subst h
  cases h2 with
  |iadr _ _ _ _ b off cs e fz hz hb hs hkl hr=>
   rw[sub_eq _ c' n k (OS hkl hi)];have hfl:=OP k xs hkl i c' n hi hcn;rw[hfl];obtain⟨f1,f2,hf12,hd1⟩:=hr.drop (i*k+c');rw[(List.append_eq_nil_iff.1 hf12.symm).2]at hd1;obtain⟨f3,f4,hf34,hd2⟩:=hd1.take n;rw[(List.append_eq_nil_iff.1 hf34.symm).1]at hd2
   have hik:i*k+k≤xs.length*k:=by rw[←Qc3];exact Qb5 _ hi
   have hcells:((((cs.toList.drop off).take (xs.length*k)).drop (i*k+c')).take n)=(cs.toList.drop (off+i*k+c')).take n:=by
    grind [Qe3,Qb2,Nat.min_eq_left,Qc6]
   rw[hcells]at hd2
   have hll:((xs.flatten.drop (i*k+c')).take n).length=n:=by
    grind
   have hml:((cs.toList.drop (off+i*k+c')).take n).length=n:=zg
   refine⟨_,w,hrun b (off+i*k+c') _ rfl hml (fun j v hj=>by grind [Af]),ROk.same ?_ ?_,fun hq=>(by grind [Ma,Op.quiet]),fun _=>rfl⟩
   ·grind [SD,AiK]
   ·refine PJ zg zg ?_;intro j a' u' hj _;rw[List.getElem?_map]at hj
    cases hlj:((xs.flatten.drop (i*k+c')).take n)[j]?with
    |none=>grind
    |some a0=>
     simp only[hlj,Qa4,Qa0]at hj;subst hj
     cases a0<;>exact trivial
 trivial
theorem Yf{P:Program}{t:TypeId}{agg:Bool}{n:Nat}(ha:EO? P t=some agg)(hn:sizeOf? P t=some n)(h1:agg=true∨n=1)(w:World)(cs:Array Value)(off:Nat)(hc:off+n≤cs.size):
  (part t cs off).run P w=.ok (Im agg ((cs.toList.drop off).take n)) w:=by
 unfold part;simp only[Sem.run_bind,AcZ ha,Result.andThen_ok]
 cases agg with
 |true=>
  simp only[if_true,Sem.run_bind,PS hn,Result.andThen_ok,Sem.run_pure,Im]
  congr 2
  grind
 |false=>
  rcases h1 with h1|h1
  ·cases h1
  ·subst h1
   have hlt:off<cs.size:=zm
   have:cs[off]?=some cs[off]:=Qd7 hlt
   have e:(cs.toList.drop off).take 1=[cs[off]]:=by
    grind [List.drop_eq_getElem_cons]
   simp_all [Im]
theorem Te{C:Ctx}{l:List AV}{m:List Value}(h:RVs C w l m [])(off n:Nat):RVs C w ((l.drop off).take n) ((m.drop off).take n) []:=by
 obtain⟨f1,f2,hf,h1⟩:=h.drop off;rw[(List.append_eq_nil_iff.1 hf.symm).2]at h1
 obtain⟨f3,f4,hf2,h2⟩:=h1.take n<;>simp_all
theorem Ahv{l:List AV}{cs:Array Value}{agg:Bool}{off n:Nat}(hr:RVs (ctx E lam z st.hp.next) w l cs.toList [])(h3:ES st tm w lam (.agg l) (.agg cs))(hn:off+n≤l.length)(h1:agg=true∨n=1):
  ROk E lam z st tm w (Abm agg (sub l off n l.length)) (Im agg ((cs.toList.drop off).take n)) w:=by
 rw[sub_eq l off n l.length rfl];have hs:=Te hr off n
 have hll:((l.drop off).take n).length=n:=zg
 refine ROk.same (SD hs zg) (PJ hs.length zg ?_);intro j a u hj hu;rw[List.getElem?_take]at hj hu;split at hj
 ·rename_i hjn;rw[if_pos hjn]at hu;rw[List.getElem?_drop]at hj hu;exact h3 (off+j) a u hj hu
 grind
theorem Aq7(R:Ax E lam z fp hd st tm w)(F:Refs st tm w lam){o:Oper}{t:TypeId}{x:Operand}{a:Opd}{f n:Nat}{fs:Array Field}{fd:Field}{agg:Bool}(ho:o.op=.field t x f)(ha:AE E.P x=some a)
  (ht:E.P.underlying t=some (.struct fs)) (hf:fs[f]?=some fd) (hagg:EO? E.P fd.type=some agg) (hn:sizeOf? E.P fd.type=some n) (h1:agg=true∨n=1) {s:SV} {g:Bool} (hg:g=true)
  (h:(st.BL g (.fld agg fd.offset n a)).holds (·=s)):OpR E lam z st tm ds w o s:=by
 simp only[St.BL,M.Aa]at h;rw[M.Aw]at h;obtain⟨s0,h0,h⟩:=h;obtain⟨h2,h3⟩:=EI R F hg ha h0 ds;generalize hu:Act.eval ⟨tm,ds⟩ x=u at h2 h3;split at h
 ·rename_i l;simp only[M.Aa,M.Ak]at h;obtain⟨hlen,h⟩:=h;rw[M.Ae]at h;subst h;obtain⟨cs,rfl,hr⟩:=h2
  have hsz:fd.offset+n≤cs.size:=by grind [hr.length]
  exact OpR.quiet (v:=_) (fun w=>by simp[execOp,ho,hu,Instr.field,run_underlying ht,hf,asAgg,Yf hagg hn h1 w cs fd.offset hsz]) (Ahv hr h3 hlen h1)
 trivial
theorem Ara(R:Ax E lam z fp hd st tm w)(F:Refs st tm w lam){o:Oper}{t e:TypeId}{x i:Operand}{a b:Opd}{len k:Nat}{agg:Bool}(ho:o.op=.index t x i)(ha:AE E.P x=some a)(hb:AE E.P i=some b)
  (ht:E.P.underlying t=some (.array len e)) (hagg:EO? E.P e=some agg) (hk:sizeOf? E.P e=some k) (h1:agg=true∨k=1) {s:SV} {g:Bool} (hg:g=true)
  (h:(st.BL g (.ixV agg len k a b)).holds (·=s)):OpR E lam z st tm ds w o s:=by
 simp only[St.BL,M.Aa]at h;obtain⟨ik,n,h0,h⟩:=Hk h;rw[M.Aw]at h;obtain⟨s0,h01,h⟩:=h;obtain⟨h2,h3⟩:=EI R F hg ha h01 ds;have e0:=Cf (ds:=ds) R F hg hb h0;generalize hu:Act.eval ⟨tm,ds⟩ x=u at h2 h3;split at h
 ·rename_i l;simp only[M.Aa,M.Ak]at h;obtain⟨hn,hlen,h⟩:=h;obtain⟨hn0,hn1⟩:=hn hg;rw[M.Ae]at h;subst h;obtain⟨cs,rfl,hr⟩:=h2
  have hik:n.toNat*k+k≤l.length:=by
   have:n.toNat+1≤len:=zm
   have:=Qb5 k this
   grind
  have hsz:n.toNat*k+k≤cs.size:=by grind [hr.length]
  simp_all [OpR.quiet,execOp,Instr.index,asIntOf,run_underlying,PS,Yf,Ahv]
 trivial
def Good(E:Env)(lam:Nat→Nat)(z:Nat→Prop)(st:St)(tm:Array Value)(w:World)(l:List AV)(m:List Value):Prop:=
 RVs (ctx E lam z st.hp.next) w l m []∧∀(j:Nat) (a:AV) (u:Value),l[j]?=some a→m[j]?=some u→Bq st tm w lam a u
theorem RVs.set{C:Ctx}{l:List AV}{m:List Value}(h:RVs C w l m []){a:AV}{v:Value}(ha:RV C w a v [])(j:Nat):RVs C w (l.set j a) (m.set j v) []:=by
 rcases Qc0 j l.length with hj|hj
 ·obtain⟨m1,u,m2,f1,fa,f2,hm,hl,hf,r1,_,r2⟩:=h.nth (Qb7 hj);have h1:=List.append_eq_nil_iff.1 hf.symm;have h2:=List.append_eq_nil_iff.1 h1.2;rw[h1.1]at r1;rw[h2.2]at r2;rw[JV l j l[j] a (Qb7 hj),hm,←hl,Rg,hl];exact r1.append (RVs.cons _ _ [] _ _ [] ha r2)
 grind [List.set_eq_of_length_le,h.length]
theorem Good.set{l:List AV}{m:List Value}(h:Good E lam z st tm w l m){a:AV}{v:Value}(ha:RV (ctx E lam z st.hp.next) w a v [])(hr:Bq st tm w lam a v)(j:Nat):Good E lam z st tm w (l.set j a) (m.set j v):=by
 refine⟨h.1.set ha j,?_⟩;intro i b u hb hu;rw[List.getElem?_set]at hb hu
 by_cases hij:j=i
 ·subst hij;rw[if_pos rfl]at hb hu;split at hb
  ·split at hu
   ·simp only[Qa0]at hb hu;subst hb;subst hu;exact hr
   ·cases hu
  ·cases hb
 ·rw[if_neg hij]at hb hu;exact h.2 i b u hb hu
theorem Good.setCells:∀(sc:List AV) (vc:List Value) {l:List AV} {m:List Value} (off:Nat),Good E lam z st tm w l m→Good E lam z st tm w sc vc→Good E lam z st tm w (setCells l off sc) (VS.setCells m off vc)
 |[],vc,l,m,off,h,hs=>by cases vc with
  |nil=>exact h
  |cons v vc=>have:=hs.1.length;grind
 |a::sc,vc,l,m,off,h,hs=>by
  cases vc with
  |nil=>have:=hs.1.length;grind
  |cons v vc=>
   obtain⟨h1,h2⟩:=hs;have h2a:=h2 0 a v rfl rfl;generalize hf:([]:List Nat)=f at h1
   cases h1 with
   |cons _ _ f _ _ g' ha ht=>
    have hfg:=List.append_eq_nil_iff.1 hf.symm;rw[hfg.1]at ha;rw[hfg.2]at ht;exact Good.setCells sc vc (off+1) (h.set ha h2a off) ⟨ht,fun j b u hb hu=>h2 (j+1) b u hb hu⟩
theorem QR:∀(vs:List Value) (cells:Array Value) (off k:Nat),((vs.zipIdx k).foldl (fun cs (p:Value×Nat)=>cs.setIfInBounds (off+p.2) p.1) cells).toList=setCells cells.toList (off+k) vs
 |[],cells,off,k=>rfl
 |v::vs,cells,off,k=>by
  simp only[List.zipIdx_cons,List.foldl_cons,VS.setCells];rw[QR vs _ off (k+1),Qd6];rfl
theorem N0{α:Type}:∀(vs:List α) (l:List α) (off:Nat),(setCells l off vs).length=l.length
 |[],_,_=>rfl
 |v::vs,l,off=>by simp only[VS.setCells];rw[N0 vs];simp
theorem K7{C:Ctx}{s:SV}{v:Value}{f:List Nat}(h:RSV C w s v f):v.cells.toList=vcells s v:=by
 cases s with
 |one a=>have:=RV.HX h;cases v<;>first|rfl|trivial
 |agg l=>obtain⟨cs,rfl,_⟩:=h;rfl
theorem Ag6(R:Ax E lam z fp hd st tm w)(F:Refs st tm w lam){g:Bool}(hg:g=true){place:Nat→Option (Nat×Nat)}{len:Nat}:∀(ps:List (Nat×Operand)) (l:List (Nat×Nat×Opd)) (cells cells':List AV) (arr:Array Value),
  partsOf E.P place len ps=some l→(JF st g cells l).holds (·=cells')→Good E lam z st tm w cells arr.toList→arr.size=len→
  ∃arr',Instr.fill place arr (ps.map fun(p:Nat×Operand)=>(p.1,Act.eval ⟨tm,ds⟩ p.2))=some arr'∧Good E lam z st tm w cells' arr'.toList
 |[],l,cells,cells',arr,hp,h,hG,hlen=>by
  simp only[partsOf,Qa0]at hp;subst hp;simp only[JF]at h;rw[M.Ae]at h;subst h;exact⟨arr,rfl,hG⟩
 |(i,x)::ps,l,cells,cells',arr,hp,h,hG,hlen=>by
  simp only[partsOf]at hp;split at hp
  case h_2=>cases hp
  rename_i off n y l' hi hy hl';split at hp
  case isFalse=>cases hp
  rename_i hon;simp only[Qa0]at hp;subst hp;simp only[JF,M.Aa]at h;rw[M.Aw]at h;obtain⟨s,h0,h⟩:=h;obtain⟨h2,h3⟩:=EI R F hg hy h0 ds;split at h
  case isFalse=>trivial
  rename_i hsn;have hvc:=K7 h2
  have hvs:(Act.eval ⟨tm,ds⟩ x).cells.size=n:=by grind [h2.cells.length]
  have hG':Good E lam z st tm w (setCells cells off s.cells) (VS.setCells arr.toList off (vcells s (Act.eval ⟨tm,ds⟩ x))):=hG.setCells _ _ off ⟨h2.cells,h3⟩
  have hfold:(((Act.eval ⟨tm,ds⟩ x).cells.zipIdx.foldl (fun cs (c,j)=>cs.setIfInBounds (off+j) c) arr)).toList=VS.setCells arr.toList off (vcells s (Act.eval ⟨tm,ds⟩ x)):=by
   rw[←Array.foldl_toList,Qe6,hvc];simp_all [QR]
  rw[←hfold]at hG'
  obtain⟨arr',ha',hG2⟩:=Ag6 R F hg ps l' _ cells' _ hl' h hG' (by
   grind [N0])
  grind [Instr.fill]
theorem AiD(l:List Value)(h:l.all Value.oneCell'=true):Good E lam z st tm w (l.map .lit) l:=by
 refine⟨RVs.lits l h,?_⟩;intro j a u hj _;rw[List.getElem?_map]at hj
 cases hl:l[j]?with
 |none=>grind
 |some v=>rw[hl]at hj;simp at hj;subst hj;trivial
theorem AnG(R:Ax E lam z fp hd st tm w)(F:Refs st tm w lam){o:Oper}{t:TypeId}{ps:Array (Nat×Operand)}{zs:List Value}{l:List (Nat×Nat×Opd)}{place:Nat→Option (Nat×Nat)}(ho:o.op=.build t ps)
  (hz:zeroOf? E.P t=some zs) (hl:partsOf E.P place zs.length ps.toList=some l)
  (hplace:(∃fs places,E.P.underlying t=some (.struct fs)∧fs.toList.mapM (fun f=>(E.P.info? f.type).map fun i=>(f.offset,i.size))=some places∧place=(places.toArray[·]?))∨
   ∃n e k,E.P.underlying t=some (.array n e)∧sizeOf? E.P e=some k∧place=fun i=>some (i*k,k)) {s:SV} {g:Bool} (hg:g=true)
  (h:(st.BL g (.build zs l)).holds (·=s)):OpR E lam z st tm ds w o s:=by
 simp only[St.BL,M.Aa]at h;rw[M.Aw]at h;obtain⟨cells',h0,h⟩:=h;rw[M.Ae]at h;subst h;obtain⟨it,zv,hit,hzv,hzl,hza⟩:=M1 hz;obtain⟨arr',ha',hG⟩:=Ag6 (ds:=ds) R F hg ps.toList l _ cells' zv.cells hl h0 (by grind [AiD]) zg
 have hb:E.P.built t (ps.map fun(i,x)=>(i,Act.eval ⟨tm,ds⟩ x)).toList=some arr':=by
  have e:(ps.map fun(i,x)=>(i,Act.eval ⟨tm,ds⟩ x)).toList=ps.toList.map fun(p:Nat×Operand)=>(p.1,Act.eval ⟨tm,ds⟩ p.2):=by simp_all
  unfold Program.built
  rcases hplace with⟨fs,places,hu,hp,rfl⟩|⟨n,e',k,hu,hk,rfl⟩
  ·grind
  ·simp only[sizeOf?,Qa2]at hk
   obtain⟨ie,hie,hk⟩:=hk<;>simp_all
 refine OpR.quiet (v:=.agg arr') (fun w=>by simp_all [execOp,run_build]) (ROk.same ⟨arr',rfl,hG.1⟩ (fun j a u hj hu=>hG.2 j a u hj hu))
end
end Go.VS
namespace Go.VS
section
variable{E:Env}{lam:Nat→Nat}{z:Nat→Prop}{fp:Ky→List Nat}{hd:Hands}{st:St}{tm:Array Value}{w:World}{ds:List Deferred}
theorem Ag0{P:Program}{op:BinOp}{t:TypeId}{x y:Operand}{a b v:Value}{p:Prop}(hv:Ab9 op a b true=some (p,v))(hp:p)(w:World):
  (do eqGuard op t x y a b;binOp op t a b:Sem Value).run P w=.ok v w∧v.oneCell'=true:=by
 unfold Ab9 at hv;split at hv
 ·rename_i k m k' n
  split at hv<;>first
   |(
     split at hv
     case isFalse=>cases hv
     rename_i hk;subst hk;simp only[Qa0,Prod.mk.injEq]at hv;obtain⟨rfl,rfl⟩:=hv;refine⟨?_,rfl⟩
     first
      |(simp[eqGuard,binOp,Op.intArith];done)
      |(simp[eqGuard,binOp,Op.intCmp];done)
      |(simp[eqGuard,binOp,Op.intBits];done)
      |simp_all [eqGuard,binOp,Op.intDiv])
   |(
     simp only[Qa0,Prod.mk.injEq]at hv;obtain⟨rfl,rfl⟩:=hv;have hp':=hp trivial;refine⟨?_,rfl⟩
     simp[eqGuard,binOp,Op.shift,Int.not_lt.2 hp'])
 ·rename_i c d
  split at hv<;>first
   |(
     simp only[Qa0,Prod.mk.injEq]at hv;obtain⟨rfl,rfl⟩:=hv;refine⟨?_,rfl⟩;simp[eqGuard,binOp,Op.stringOp,ByteArray.toList_eq]
     done)
   |(
     simp only[Qa0,Prod.mk.injEq]at hv;obtain⟨rfl,rfl⟩:=hv;refine⟨?_,rfl⟩;have hp':=hp trivial
     have hmax:¬(((c.size+d.size:Nat):Int)>IntKind.i64.max):=by
      have:IntKind.i64.max=9223372036854775807:=zdz
      grind
     have hcat:c++d=⟨c.data++d.data⟩:=by
      apply ByteArray.ext;simp
     simp_all [eqGuard,binOp,Op.stringOp])
   |cases hv
 grind
theorem Re{α:Type}(zs:List α):∀n,(Qa3 n zs).flatten.length=n*zs.length
 |0=>zsz
 |n+1=>by simp_all
def valOf(P:Program)(t:TypeId)(m:List Value):Value:=Im ((EO? P t).getD false) m
theorem ON:∀{ks:List CK} {l m:List AV} {b:Bool},EZ ks l m=some b→l.length=ks.length∧m.length=ks.length
 |[],[],[],_,_=>⟨rfl,rfl⟩
 |[],[],_::_,_,h=>by trivial
 |[],_::_,_,_,h=>by trivial
 |_::_,[],_,_,h=>by trivial
 |_::_,_::_,[],_,h=>by trivial
 |k::ks,a::l,c::m,b,h=>by
  simp only[EZ]at h;split at h
  ·rename_i h2;have:=ON h2;grind
  grind
theorem Kp:∀(ks1:List CK) {ks2:List CK} {l m:List AV} {b:Bool},EZ (ks1++ks2) l m=some b→
  ∃b1 b2,EZ ks1 (l.take ks1.length) (m.take ks1.length)=some b1∧EZ ks2 (l.drop ks1.length) (m.drop ks1.length)=some b2∧b=(b1&&b2)
 |[],_,l,m,b,h=>⟨true,b,rfl,h,zsz⟩
 |k::ks1,ks2,l,m,b,h=>by
  match l,m with
  |a::l,c::m=>
   simp only[Qc8,EZ]at h;split at h
   ·rename_i x y hx hy;simp only[Qa0]at h;obtain⟨b1,b2,h1,h2,h3⟩:=Kp ks1 hy
    grind [EZ]
   grind
  |[],_=>trivial
  |_::_,[]=>trivial
theorem flat_agg{P:Program}{d:Nat}{t:TypeId}{ks:List CK}(h:Ks P d t=some ks):∃agg,EO? P t=some agg∧(agg=true∨ks.length=1):=by
 cases d with
 |zero=>trivial
 |succ d=>
  simp only[Ks]at h;split at h
  ·rename_i hu;cases h;simp_all [EO?]
  ·rename_i hu;cases h;simp_all [EO?]
  ·rename_i hu;cases h;simp_all [EO?]
  ·simp_all [EO?]
  ·simp_all [EO?]
  grind
theorem SM{P:Program}{d:Nat}{t:TypeId}{ks:List CK}(h:Ks P d t=some ks)(hn:sizeOf? P t=some ks.length)(w:World)(cs:Array Value)(off:Nat)(hc:off+ks.length≤cs.size):
  (part t cs off).run P w=.ok (valOf P t ((cs.toList.drop off).take ks.length)) w:=by
 grind [flat_agg,Yf,valOf]
theorem Afp{C:Ctx}{u:World}:∀(d:Nat) {t:TypeId} {ks:List CK} {D:Nat} {l m:List AV} {xs ys:List Value} {b:Bool},Ks C.P d t=some ks→d≤D→RVs C w l xs []→RVs C w m ys []→EZ ks l m=some b→
  (Op.equalIn (D+1) t (valOf C.P t xs) (valOf C.P t ys)).run C.P u=.ok b u
 |0,_,_,_,_,_,_,_,_,hf,_,_,_,_=>by trivial
 |d+1,t,ks,D,l,m,xs,ys,b,hf,hD,hx,hy,he=>by
  have hl:=ON he
  obtain⟨D,rfl⟩:∃D',D=D'+1:=⟨D -1,zm⟩
  have one:∀ck,ks=[ck]→∃a c u v,l=[a]∧m=[c]∧xs=[u]∧ys=[v]∧RV C w a u []∧RV C w c v []∧QP ck a c=some b:=by
   rintro ck rfl
   match l,m,hl with
   |[a],[c],_=>
    grind [RVs.BU,EZ]
  simp only[Ks]at hf;split at hf
  ·rename_i k hu;cases hf;obtain⟨a,c,u,v,rfl,rfl,rfl,rfl,ha,hc,h1⟩:=one .int rfl;unfold QP at h1;split at h1
   ·split at h1
    ·rename_i k1 p k2 q hk;subst hk;obtain⟨rfl,_⟩:=JD ha;obtain⟨rfl,_⟩:=JD hc;cases h1;simp[valOf,Im,EO?,hu,Op.equalIn,run_underlying hu]
    grind
   ·grind
   ·grind
   grind
  ·rename_i hu;cases hf;obtain⟨a,c,u,v,rfl,rfl,rfl,rfl,ha,hc,h1⟩:=one .str rfl;unfold QP at h1;split at h1
   ·grind
   ·obtain⟨rfl,_⟩:=JD ha;obtain⟨rfl,_⟩:=JD hc;cases h1;simp[valOf,Im,EO?,hu,Op.equalIn,run_underlying hu,beq_toListBytes,ByteArray.toList_eq]
   ·grind
   grind
  ·rename_i hu;cases hf;obtain⟨a,c,u,v,rfl,rfl,rfl,rfl,ha,hc,h1⟩:=one .bool rfl;unfold QP at h1;split at h1
   ·grind
   ·grind
   ·obtain⟨rfl,_⟩:=JD ha;obtain⟨rfl,_⟩:=JD hc;cases h1;simp[valOf,Im,EO?,hu,Op.equalIn,run_underlying hu]
   grind
  ·rename_i fs hu;split at hf
   case isTrue=>cases hf
   rename_i hst
   have hagg:valOf C.P t xs=.agg xs.toArray∧valOf C.P t ys=.agg ys.toArray:=by simp[valOf,Im,EO?,hu]
   rw[hagg.1,hagg.2]
   have hfo:C.P.fieldsOf t=fs:=by simp[Program.fieldsOf,hu]
   rw[run_equalIn_struct u (D+1) t _ _ zg zg,hfo]
   have key:∀(fl:List Field) (off:Nat) (ks:List CK) (b:Bool),Np C.P (Ks C.P d) off fl=some ks→off+ks.length≤xs.length→off+ks.length≤ys.length→
     EZ ks (l.drop off) (m.drop off)=some b→(Op.eqFields (D+1) xs.toArray ys.toArray fl).run C.P u=.ok b u:=by
    intro fl
    induction fl with
    |nil=>
     intro off ks b h1 _ _ h2;cases h1
     match l.drop off,m.drop off,h2 with
     |[],[],h2=>cases h2;rfl
     |[],_::_,h2=>trivial
     |_::_,_,h2=>trivial
    |cons f fl ih=>
     intro off ks b h1 hxl hyl h2;simp only[Np]at h1;split at h1
     case isFalse=>cases h1
     rename_i hn;simp only[Bool.and_eq_true,bne_iff_ne,ne_eq,beq_iff_eq]at hn;obtain⟨hn1,hn2⟩:=hn;split at h1
     case h_2=>cases h1
     rename_i ks1 hks1;split at h1
     case isFalse=>cases h1
     rename_i hsz;simp only[Qa2]at h1;obtain⟨ks2,hks2,rfl⟩:=h1;rw[List.length_append]at hxl hyl;obtain⟨b1,b2,e1,e2,rfl⟩:=Kp ks1 h2;rw[Qb2,Qb2]at e2;have hr:=Afp (u:=u) d hks1 (by omega:d≤D) (Te hx off ks1.length) (Te hy off ks1.length) e1;have px:=SM hks1 hsz u xs.toArray f.offset zg
     have py:=SM hks1 hsz u ys.toArray f.offset zg;rw[hn2]at px py;simp only[Op.eqFields,ne_eq,hn1,not_false_eq_true,if_true,Sem.run_bind,hn2,px,py,Result.andThen_ok,hr]
     cases b1 with
     |false=>simp
     |true=>grind
   grind [hx.length,hy.length]
  ·rename_i n e hu;split at hf
   case h_2=>cases hf
   rename_i k hk;split at hf
   case isFalse=>cases hf
   rename_i hsz;cases hf
   have hagg:valOf C.P t xs=.agg xs.toArray∧valOf C.P t ys=.agg ys.toArray:=by simp[valOf,Im,EO?,hu]
   rw[hagg.1,hagg.2];have hsz':=hsz;simp only[sizeOf?,Qa2]at hsz';obtain⟨i,hi,hi2⟩:=hsz'
   have hco:C.P.cellsOf e=k.length:=by grind [Program.cellsOf]
   rw[run_equalIn_array u (D+1) xs.toArray ys.toArray hu hi,hco,List.range_eq_range']
   have key:∀(cnt j:Nat) (b:Bool),(j+cnt)*k.length≤xs.length→(j+cnt)*k.length≤ys.length→EZ (Qa3 cnt k).flatten (l.drop (j*k.length)) (m.drop (j*k.length))=some b→
     (Op.eqItems (D+1) e k.length xs.toArray ys.toArray (List.range' j cnt)).run C.P u=.ok b u:=by
    intro cnt
    induction cnt with
    |zero=>
     intro j b _ _ h2
     match l.drop (j*k.length),m.drop (j*k.length),h2 with
     |[],[],h2=>cases h2;rfl
     |[],_::_,h2=>trivial
     |_::_,_,h2=>trivial
    |succ cnt ih=>
     intro j b hxl hyl h2;rw[List.replicate_succ,Qb8]at h2;obtain⟨b1,b2,e1,e2,rfl⟩:=Kp k h2;rw[Qb2,Qb2]at e2
     have hj:j*k.length+k.length≤(j+(cnt+1))*k.length:=by
      grind
     have hr:=Afp (u:=u) d hk (by omega:d≤D) (Te hx (j*k.length) k.length) (Te hy (j*k.length) k.length) e1;have px:=SM hk hsz u xs.toArray (j*k.length) zg;have py:=SM hk hsz u ys.toArray (j*k.length) zg;simp only[List.range'_succ,Op.eqItems,Sem.run_bind,px,py,Result.andThen_ok,hr]
     cases b1 with
     |false=>simp
     |true=>
      grind [Qc3]
   grind [Re,hx.length,hy.length]
  grind
theorem Aq6(R:Ax E lam z fp hd st tm w)(F:Refs st tm w lam){o:Oper}{op:BinOp}{t u:TypeId}{x y:Operand}{aop:AOp}(ho:o.op=.binOp op t x y u)(ha:UP E.P op t x y=some aop){s:SV}{g:Bool}(hg:g=true)
  (h:(st.BL g aop).holds (·=s)):OpR E lam z st tm ds w o s:=by
 have plain:∀(a b:Opd),AE E.P x=some a→AE E.P y=some b→(st.BL g (.bin op a b)).holds (·=s)→OpR E lam z st tm ds w o s:=by
  intro a b hx hy h;simp only[St.BL,M.Aa]at h;rw[M.Aw]at h;obtain⟨s1,h1,h⟩:=h;rw[M.Aw]at h;obtain⟨s2,h2,h⟩:=h;split at h
  ·rename_i va vb;rw[M.Aa,M.OW]at h;obtain⟨p,v,hv,hp,h⟩:=h;rw[M.Ae]at h;subst h;have e1:=Cf (ds:=ds) R F hg hx h1;have e2:=Cf (ds:=ds) R F hg hy h2;rw[hg]at hv;have h1c:=(Ag0 (t:=t) (P:=E.P) (x:=x) (y:=y) hv hp w).2
   have hr:=fun w=>(Ag0 (t:=t) (P:=E.P) (x:=x) (y:=y) hv hp w).1
   refine OpR.quiet (v:=v) (fun w=>?_) (ROk.lit h1c);simp only[execOp,ho,e1,e2,Sem.run_bind,hr,Result.andThen_ok];rfl
  trivial
 have aggs:∀(a b:Opd) (ks:List CK),AE E.P x=some a→AE E.P y=some b→EO? E.P t=some true→(op=.eql∨op=.neq)→E.P.eqGuardType E.P.depth t=false→Ks E.P 9 t=some ks→
   (st.BL g (.eqA (op==.neq) ks a b)).holds (·=s)→OpR E lam z st tm ds w o s:=by
  intro a b ks hx hy hagg hop hgd hks h;simp only[St.BL,M.Aa]at h;rw[M.Aw]at h;obtain⟨s1,h1,h⟩:=h;rw[M.Aw]at h;obtain⟨s2,h2,h⟩:=h;split at h
  ·rename_i l m;rw[M.Aa,M.Dh]at h;obtain⟨b',hb',h⟩:=h;rw[M.Ae]at h;subst h;obtain⟨⟨cs,e1,r1⟩,_⟩:=EI R F hg hx h1 ds;obtain⟨⟨cs',e2,r2⟩,_⟩:=EI R F hg hy h2 ds
   have hr:=fun u=>Afp (C:=ctx E lam z st.hp.next) (w:=w) (u:=u) 9 (D:=9999) hks zm r1 r2 hb'
   have hv1:valOf E.P t cs.toList=.agg cs:=by simp[valOf,hagg,Im]
   have hv2:valOf E.P t cs'.toList=.agg cs':=by simp[valOf,hagg,Im]
   have hr':∀w,(Op.equalIn 10000 t (.agg cs) (.agg cs')).run E.P w=.ok b' w:=fun w=>by rw[←hv1,←hv2];exact hr w
   rcases hop with rfl|rfl
   ·refine OpR.quiet (v:=.bool b') (fun w=>?_) (ROk.lit rfl);simp_all [execOp,Sem.run_bind,run_eqGuard_agg,Result.andThen_ok,run_eql_struct]
   ·refine OpR.quiet (v:=.bool !b') (fun w=>?_) (ROk.lit rfl);simp_all [execOp,Sem.run_bind,run_eqGuard_agg,Result.andThen_ok,run_neq_struct]
  trivial
 unfold UP at ha;split at ha
 ·grind
 ·grind
 ·rename_i a b hx hy hu;split at ha
  case isFalse=>cases ha
  rename_i hop;cases ha;simp only[St.BL,M.Aa]at h;obtain⟨c,h1,h⟩:=IB h;obtain⟨d,h2,h⟩:=IB h;rw[M.Ae]at h;subst h;have e1:=Cf (ds:=ds) R F hg hx h1;have e2:=Cf (ds:=ds) R F hg hy h2
  rcases hop with rfl|rfl
  ·refine OpR.quiet (v:=.bool (c==d)) (fun w=>?_) (ROk.lit rfl);simp_all [execOp,eqGuard,run_eql_bool]
  ·refine OpR.quiet (v:=.bool !(c==d)) (fun w=>?_) (ROk.lit rfl);simp_all [execOp,eqGuard,run_neq_bool]
 ·grind [Qa2,EO?]
 ·grind [Qa2,EO?]
 grind
end
end Go.VS
namespace Go.VS
section
variable{E:Env}{lam:Nat→Nat}{z:Nat→Prop}{fp:Ky→List Nat}{hd:Hands}{st:St}{tm:Array Value}{w:World}{ds:List Deferred}
theorem Ax.vers(R:Ax E lam z fp hd st tm w)(vs:Nat→Nat)(hv:Nat):Ax E lam z fp hd ⟨st.sl,st.hp,vs,hv⟩ tm w:=
 ⟨fun κ=>by have:=R.keys κ;trivial,R.fps,R.z,R.frame,R.os,R.tape,R.output,R.size,R.tsz,R.base,R.i0⟩
theorem Cq(st:St):∀(rs:List Root),(st.bumps rs).sl=st.sl∧(st.bumps rs).hp=st.hp
 |[]=>⟨rfl,rfl⟩
 |r::rs=>by
  have:=Cq (st.bump r) rs
  cases r<;>exact this
theorem Ax.bumps(R:Ax E lam z fp hd st tm w)(rs:List Root):Ax E lam z fp hd (st.bumps rs) tm w:=by
 have:=R.vers (st.bumps rs).vs (st.bumps rs).hv
 have e:st.bumps rs=⟨st.sl,st.hp,(st.bumps rs).vs,(st.bumps rs).hv⟩:=by
  have h:=Cq st rs;rw[←h.1,←h.2]
 grind
theorem Po(st:St)(r r':Root):st.ver r'≤(st.bump r).ver r':=by
 cases r<;>cases r'<;>simp only[St.bump,St.ver,upd]<;>(grind)<;>(try subst_vars)<;>omega
theorem Ti(st:St)(r':Root):∀(rs:List Root),st.ver r'≤(st.bumps rs).ver r':=by
 intro rs
 induction rs generalizing st with
 |nil=>exact Qa7 _
 |cons r rs ih=>exact Qd2 (Po st r r') (ih (st.bump r))
theorem Tj(st:St)(r:Root):∀(rs:List Root),r∈rs→st.ver r<(st.bumps rs).ver r:=by
 intro rs
 induction rs generalizing st with
 |nil=>grind
 |cons r0 rs ih=>
  intro h;simp only[St.bumps];rw[List.mem_cons]at h
  rcases h with rfl|h
  ·refine Qa5 ?_ (Ti (st.bump r) r rs)
   cases r<;>simp[St.bump,St.ver,upd]
  grind [Po]
structure Sh(tm:Array Value)(w:World)(lam:Nat→Nat)(st st':St)(rs:List Root):Prop where
 root:∀r,r∉rs→st'.root r=st.root r
 refs:∀t s',st'.sl t=.val true s'→∃s,st.sl t=.val true s∧vcells s' (tm.getD t undef)=vcells s (tm.getD t undef)∧∀(j:Nat) (a:AV),s'.cells[j]?=some a→s.cells[j]?=some a∨(∀p v k lo n,a≠.ref p v k lo n)∧∀p v k i c,a≠.adr p v k i c
 vs:st'.vs=st.vs
 hv:st'.hv=st.hv
 next:st'.hp.next=st.hp.next
 conc:∀q,VS.conc st' tm w lam q=VS.conc st tm w lam q
theorem Sh.refl(st:St):Sh tm w lam st st []:=⟨fun _ _=>rfl,fun _ s' h=>⟨s',h,rfl,fun _ _ h=>.inl h⟩,rfl,rfl,rfl,fun _=>rfl⟩
theorem Sh.trans{a b c:St}{rs rs':List Root}(h:Sh tm w lam a b rs)(k:Sh tm w lam b c rs'):Sh tm w lam a c (rs++rs'):=by
 refine⟨fun r hr=>?_,fun t s' hs=>?_,k.vs.trans h.vs,k.hv.trans h.hv,k.next.trans h.next,fun q=>(k.conc q).trans (h.conc q)⟩
 ·rw[List.mem_append,not_or]at hr;exact(k.root r hr.2).trans (h.root r hr.1)
 ·obtain⟨s1,h1,e1,h2⟩:=k.refs t s' hs
  obtain⟨s2,h3,e2,h4⟩:=h.refs t s1 h1<;>grind
theorem JH(r:Root)(a:AV):(st.Au r a).vs=st.vs∧(st.Au r a).hv=st.hv:=by
 cases r<;>grind [St.Au]
theorem RVs.Ahr{C:Ctx}{l:List AV}{m:List Value}{f:List Nat}(h:RVs C w l m f)(hl:l=[]):f=[]:=by
 subst hl;generalize hm:m=m' at h;cases h;rfl
theorem Pn(s:SV)(j:Nat)(b:AV)(v:Value):vcells (s.setCell j b) v=vcells s v:=by
 cases s with
 |one a=>cases j<;>rfl
 |agg l=>exact K8 _ _ _
theorem Sh.put{p:Place}{k:Nat}{xs:List (List AV)}(h:st.at p=some (.sl .own k xs)):Sh tm w lam st (st.putAt p .dead) [p.root]:=by
 simp only[St.at]at h
 cases ha:st.root p.root with
 |none=>grind
 |some a=>
  rw[ha]at h;simp only[Qa1]at h
  have he:st.putAt p .dead=st.Au p.root (a.put p.path .dead):=by grind [St.putAt]
  have hown:(∀q v k lo n,a.put p.path .dead≠.ref q v k lo n)∧∀q v k i c,a.put p.path .dead≠.adr q v k i c:=by
   cases hp:p.path with
   |nil=>simp[AV.put]
   |cons s r=>
    rw[hp]at h
    cases a with
    |sl τ k xs=>
     cases τ<;>grind [AV.put,AV.at]
    |_=>simp[AV.at]at h
  refine⟨?_,?_,?_,?_,?_,?_⟩
  ·intro r hr;rw[List.mem_singleton]at hr;rw[he]
   cases hpr:p.root with
   |slot t j=>
    rw[hpr]at ha hr;obtain⟨s,hs,hj⟩:=St.Fk ha
    cases r with
    |obj o c=>rfl
    |slot t' j'=>
     simp only[St.Au,St.root,upd]<;>grind [TV.setCell,TV.cell,SV.GL]
   |obj o c=>
    rw[hpr]at ha hr;obtain⟨l,hg,hc⟩:=St.Fg ha
    cases r with
    |slot t j=>grind [St.Au,St.root]
    |obj o' c'=>
     simp only[St.Au,hg,St.root,Heap.set,upd]<;>grind
  ·intro t s' hs';rw[he]at hs'
   cases hpr:p.root with
   |obj o c=>
    rw[hpr]at hs'
    have:(st.Au (.obj o c) (a.put p.path .dead)).sl=st.sl:=by grind [St.Au]
    grind
   |slot t0 j=>
    rw[hpr]at hs' ha;obtain⟨s,hs,hj⟩:=St.Fk ha
    simp only[St.Au,upd]at hs'<;>grind [TV.setCell,TV.val.injEq,Pn,SV.GL]
  ·grind [JH]
  ·grind [JH]
  ·grind [HW]
  grind [VS.conc,Ff]
theorem Zk(rs:List Root)(r:Root):BE (st.bumps rs) tm w lam r=BE st tm w lam r:=by
 simp_all [BE,Cq]
theorem WI(rs:List Root)(q:Place):conc (st.bumps rs) tm w lam q=conc st tm w lam q:=by grind [conc,Zk]
theorem Ab7(rs:List Root)(q:Place):(st.bumps rs).at q=st.at q:=by
 simp only[St.at]
 congr 1
 cases q.root<;>grind [St.root,Cq]
theorem Fl{st st':St}(h1:st'.vs=st.vs)(h2:st'.hv=st.hv)(r:Root):st'.ver r=st.ver r:=by simp_all [St.ver]
theorem Bq.shift{st':St}{rs:List Root}(S:Sh tm w lam st st' rs){a:AV}{u:Value}(h:Bq st tm w lam a u):Bq (st'.bumps rs) tm w lam a u:=by
 have live:∀(p:Place) (ver:Nat),ver≤st.ver p.root→ver≤(st'.bumps rs).ver p.root∧(ver=(st'.bumps rs).ver p.root→ver=st.ver p.root∧(st'.bumps rs).at p=st.at p∧conc (st'.bumps rs) tm w lam p=conc st tm w lam p):=by
  intro p ver hv;have e:=Fl S.vs S.hv p.root;have hle:=Ti st' p.root rs;refine⟨zm,fun he=>?_⟩
  have hn:p.root∉rs:=fun hm=>by have:=Tj st' p.root rs hm;omega
  refine⟨zm,?_,by rw[WI];exact S.conc p⟩
  rw[Ab7];simp only[St.at,S.root p.root hn]
 cases a with
 |ref p ver k lo n=>
  obtain⟨h1,h2⟩:=live p ver h.1;refine⟨h1,fun hv=>?_⟩;obtain⟨h3,h4,h5⟩:=h2 hv
  obtain⟨xs,v0,k1,k2,k3⟩:=h.2 h3<;>grind
 |adr p ver k i c=>
  obtain⟨h1,h2⟩:=live p ver h.1;refine⟨h1,fun hv=>?_⟩;obtain⟨h3,h4,h5⟩:=h2 hv
  obtain⟨xs,b,off,len,cap,k1,k2,k3⟩:=h.2 h3<;>grind
 |_=>exact trivial
theorem Refs.shift{st':St}{rs:List Root}(S:Sh tm w lam st st' rs)(F:Refs st tm w lam):Refs (st'.bumps rs) tm w lam:=by
 intro t s' hs j a u hj hu;rw[(Cq st' rs).1]at hs;obtain⟨s,h1,h2,h3⟩:=S.refs t s' hs;rw[h2]at hu
 rcases h3 j a hj with h4|h4
 ·exact(F t s h1 j a u h4 hu).shift S
 ·exact Bq.XT h4.1 h4.2
theorem NA{C:Ctx}{k:Nat}{xs:List (List AV)}{v0 u:Value}{f:List Nat}{lo n:Nat}(h:RV C w (.sl .own k xs) v0 f)(hw:Win k v0 lo n u)(hl:lo+n≤xs.length):
  ∃f',RV C w (.sl .own k (window lo n xs)) u f'∧(f.Nodup→f'.Nodup)∧∀b,b∈f'→b∈f:=by
 rw[MZ]
 rcases hw with⟨rfl,rfl,rfl,rfl⟩|⟨b,off,len,cap,off',cap',rfl,rfl,h1,h2,h3,h4⟩
 ·exact⟨[],by simpa using RV.slNil .own k,fun _=>Qb6,(fun _ h=>nomatch h)⟩
 ·cases h with
  |shr _ _ _ _ _ _ _ _ _ ht=>grind
  |shrE _ _ _ _ ht=>grind
  |own _ _ _ _ _ cs e f hb hs hc hm hk hr=>
   obtain⟨f1,f2,rfl,hd1⟩:=hr.drop (lo*k);obtain⟨f3,f4,rfl,hd2⟩:=hd1.take (n*k)
   have hlen:((xs.drop lo).take n).length=n:=zg
   have hk':∀y∈(xs.drop lo).take n,y.length=k:=fun y hy=>hk y (Qe5 (Qd4 hy))
   rw[Tl cs off xs.length k lo n hl,←HP k xs hk]at hd2;refine⟨b::f3,?_,?_,?_⟩
   ·by_cases hc0:cap'=0
    ·have hn0:n=0:=by omega
     subst hn0
     have h5:f3=[]:=by
      grind [RVs.Ahr]
     rw[h5];have:=RV.own (C:=C) (w:=w) k [] b off' cap' cs e [] hb zm zsz zm zsz zg
     grind
    ·rw[h4 hc0];have:=RV.own (C:=C) (w:=w) k ((xs.drop lo).take n) b (off+lo*k) cap' cs e f3 hb zg zg zm hk' zg
     grind
   ·grind
   grind
theorem OY{hd':Hands}{κ:Ky}{C:Ctx}{u:World}{f:List Nat}(h:∀i,κ=.h i→hd' i=hd i)(hK:AQ C hd st tm u κ f):AQ C hd' st tm u κ f:=by
 cases κ<;>grind [AQ]
theorem Ax.join(R:Ax E lam z fp hd st tm w)(i j:Nat)(hij:j≠i):∃fp',Ax E lam z fp' (upd (upd hd j ([],[])) i ((hd i).1++(hd j).1,(hd i).2++(hd j).2)) st tm w∧∀k,k≠i→k≠j→fp' (.h k)=fp (.h k):=by
 have h1:=R.keys (.h i);have h2:=R.keys (.h j);simp only[AQ]at h1 h2
 have hkk:(Ky.h i)≠Ky.h j:=zg
 have hne:∀x,x∈fp (.h i)→x∉fp (.h j):=fun x hx=>R.fps.dis (.h i) (.h j) x hkk hx
 refine⟨upk (upk fp (.h j) []) (.h i) (fp (.h i)++fp (.h j)),?_,fun k hk hk'=>by simp_all [BA]⟩;refine R.pass (hd':=upd (upd hd j ([],[])) i ((hd i).1++(hd j).1,(hd i).2++(hd j).2)) (st':=st) (tm':=tm) (.h j) (.h i) zg (Moves.refl _ w) rfl rfl ?_ ?_ ?_ Qb6 ?_ (fun _ h=>nomatch h) (fun _ h=>nomatch h) ?_
 ·grind [OY,upd]
 ·simp only[AQ,upd,if_neg hij,if_true];exact .nil
 ·simp only[AQ,upd,if_true];exact h1.append h2
 ·rw[Qa6];exact⟨R.fps.nod _,R.fps.nod _,fun x hx y hy e=>hne x hx (e▸hy)⟩
 grind
theorem JI(st:St)(mem:Bool):∀(l:List AV) (m:List Value) (sti:St) (rs0:List Root) (la:List AV) (lv:List Value) (fp:Ky→List Nat) (l':List AV) (st':St) (rs:List Root),
  Ax E lam z fp (upd Ao 0 (la,lv)) sti tm w→Sh tm w lam st sti rs0→RVs (ctx E lam z st.hp.next) w l m []→(∀(j:Nat) (a:AV) (u:Value),l[j]?=some a→m[j]?=some u→Bq st tm w lam a u)→
  (sti.CG st.ver mem l).holds (·=(l',st',rs))→
  ∃fp',Ax E lam z fp' (upd Ao 0 (la++l',lv++m)) st' tm w∧Sh tm w lam st st' (rs0++rs)∧l'.length=l.length∧
   (∀(j:Nat) (a:AV) (u:Value),l'[j]?=some a→m[j]?=some u→Bq st tm w lam a u)∧(mem=true→∀a∈l',(∀p v k lo n,a≠.ref p v k lo n)∧∀p v k i c,a≠.adr p v k i c)
 |[],m,sti,rs0,la,lv,fp,l',st',rs,R,S,hr,hc,h=>by
  simp only[St.CG]at h;rw[M.Ae]at h;cases h;generalize hf:([]:List Nat)=f at hr
  cases hr<;>grind
 |a::l,m,sti,rs0,la,lv,fp,l',st',rs,R,S,hr,hc,h=>by
  generalize hf:([]:List Nat)=f at hr
  cases hr with
  |cons _ u f _ m g ha ht=>
   have hfg:=List.append_eq_nil_iff.1 hf.symm;rw[hfg.1]at ha;rw[hfg.2]at ht;simp only[St.CG,M.Aa]at h;rw[M.Aw]at h;obtain⟨⟨b,st1,rs1⟩,h1,h⟩:=h;dsimp only at h;rw[M.Aw]at h;obtain⟨⟨m',st2,rs2⟩,h2,h⟩:=h;rw[M.Ae]at h;cases h;have hca:=hc 0 a u rfl rfl
   have step:∃fp1,Ax E lam z fp1 (upd Ao 0 (la++[b],lv++[u])) st1 tm w∧Sh tm w lam st st1 (rs0++rs1)∧Bq st tm w lam b u∧(mem=true→(∀p v k lo n,b≠.ref p v k lo n)∧∀p v k i c,b≠.adr p v k i c):=by
    have same:∀(hn:a.Ci=false),b=a→st1=sti→rs1=[]→∃fp1,Ax E lam z fp1 (upd Ao 0 (la++[b],lv++[u])) st1 tm w∧Sh tm w lam st st1 (rs0++rs1):=by
     rintro hn rfl rfl rfl;have h0:=R.keys (.h 0);simp only[AQ,upd,if_true]at h0
     have ha':RV (ctx E lam z st1.hp.next) w b u []:=by grind [S.next]
     have:=R.turn 0 (Moves.refl _ w) (h0.append (RVs.one ha')) (by simpa using R.fps.nod (.h 0)) (fun x hx=>.inl zg)
     have e:upd (upd Ao 0 (la,lv)) 0 (la++[b],lv++[u])=upd Ao 0 (la++[b],lv++[u]):=by grind [upd]
     grind
    unfold St.Fh at h1;split at h1
    ·rename_i p v k lo n
     cases hal:!mem&&!p.path.isEmpty with
     |true=>
      rw[hal,cond_true,M.Ae]at h1;cases h1;obtain⟨fp1,hR,hS⟩:=same rfl rfl rfl rfl;exact⟨fp1,hR,hS,hca,fun hm'=>by rw[hm']at hal;cases hal⟩
     |false=>
     rw[hal,cond_false]at h1;split at h1
     ·rename_i k' xs hat;simp only[M.Aa,M.Ak]at h1;obtain⟨hv,hkk,hln,h1⟩:=h1;rw[M.Ae]at h1;cases h1;subst hkk;obtain⟨xs',v0,k1,k2,k3⟩:=hca.2 hv;obtain⟨u0,fp1,c1,R1,hh1⟩:=R.take 1 p hat
      have hu0:u0=v0:=by rw[S.conc p,k2]at c1<;>grind
      subst hu0;have hk1:=R1.keys (.h 1);simp only[AQ,upd,if_true]at hk1;obtain⟨u1,hu1,hrv⟩:=RVs.BU hk1;cases hu1;obtain⟨f',w1,w2,w3⟩:=NA hrv k3 hln;have R2:=R1.turn 1 (Moves.refl _ w) (RVs.one w1) (w2 (R1.fps.nod _)) (fun x hx=>.inl (w3 x hx));obtain⟨fp3,R3,_⟩:=R2.join 0 1 zdz
      have e:upd (upd (upd (upd (upd Ao 0 (la,lv)) 1 ([AV.sl .own k' xs],[u0])) 1 ([AV.sl .own k' (window lo n xs)],[u])) 1 ([],[])) 0
        ((upd (upd (upd Ao 0 (la,lv)) 1 ([AV.sl .own k' xs],[u0])) 1 ([AV.sl .own k' (window lo n xs)],[u]) 0).1++(upd (upd (upd Ao 0 (la,lv)) 1 ([AV.sl .own k' xs],[u0])) 1 ([AV.sl .own k' (window lo n xs)],[u]) 1).1,
         (upd (upd (upd Ao 0 (la,lv)) 1 ([AV.sl .own k' xs],[u0])) 1 ([AV.sl .own k' (window lo n xs)],[u]) 0).2++(upd (upd (upd Ao 0 (la,lv)) 1 ([AV.sl .own k' xs],[u0])) 1 ([AV.sl .own k' (window lo n xs)],[u]) 1).2)=
        upd Ao 0 (la++[AV.sl .own k' (window lo n xs)],lv++[u]):=by
       grind [upd,Ao]
      rw[e]at R3;exact⟨fp3,R3,S.trans (Sh.put hat),trivial,fun _=>⟨zsz,zsz⟩⟩
     trivial
    ·rename_i p v k i c;split at h1
     ·trivial
     ·rename_i hm;rw[M.Ae]at h1;cases h1
      obtain⟨fp1,hR,hS⟩:=same rfl rfl rfl rfl<;>grind
    ·rename_i k xs i c;split at h1
     ·trivial
     ·rw[M.Ae]at h1;cases h1
      obtain⟨fp1,hR,hS⟩:=same rfl rfl rfl rfl<;>grind
    ·trivial
    ·trivial
    ·rename_i h3 h4 h5 h6 h7;rw[M.Ae]at h1;cases h1
     have hno:a.Ci=false:=by
      cases a with
      |sl τ k xs=>cases τ<;>first|rfl|grind
      |_=>rfl
     obtain⟨fp1,hR,hS⟩:=same hno rfl rfl rfl;exact⟨fp1,hR,hS,hca,fun _=>⟨fun p v k lo n=>h3 p v k lo n,fun p v k i c=>h4 p v k i c⟩⟩
   obtain⟨fp1,R1,S1,hcb,hmb⟩:=step
   obtain⟨fp2,R2,S2,hl2,hc2,hm2⟩:=JI st mem l m st1 (rs0++rs1) (la++[b]) (lv++[u]) fp1 m' st2 rs2 R1 S1 ht (fun j a' u' hj hu=>hc (j+1) a' u' hj hu) h2<;>grind
end
end Go.VS
namespace Go.VS
section
variable{E:Env}{lam:Nat→Nat}{z:Nat→Prop}{fp:Ky→List Nat}{hd:Hands}{st:St}{tm:Array Value}{w:World}{ds:List Deferred}
def Fits(s:SV)(v:Value):Prop:=∀C w f,RVs C w s.cells (vcells s v) f→RSV C w s v f
theorem RSV.fits{C:Ctx}{w:World}{s:SV}{v:Value}{f:List Nat}(h:RSV C w s v f){l:List AV}(hl:l.length=s.cells.length):Fits (s.with l) v∧(s.with l).cells=l∧vcells (s.with l) v=vcells s v:=by
 cases s with
 |one a=>
  match l,hl with
  |[b],_=>
   refine⟨fun C w f h=>?_,rfl,rfl⟩;obtain⟨u,hu,h'⟩:=RVs.BU (show RVs C w [b] [v] f from h);cases hu;exact h'
 |agg m=>
  obtain⟨cs,rfl,_⟩:=h;exact⟨fun C w f h=>⟨cs,rfl,h⟩,rfl,rfl⟩
structure Took(E:Env)(lam:Nat→Nat)(z:Nat→Prop)(mem:Bool)(st:St)(tm:Array Value)(w:World)(s:SV)(v:Value)(st1:St)(fp:Ky→List Nat):Prop where
 rel:Ax E lam z fp (upd Ao 0 (s.cells,vcells s v)) st1 tm w
 refs:Refs st1 tm w lam
 own:ES st1 tm w lam s v
 fits:Fits s v
 next:st1.hp.next=st.hp.next
 clean:mem=true→∀a∈s.cells,(∀p v k lo n,a≠.ref p v k lo n)∧∀p v k i c,a≠.adr p v k i c
 keep:∀a u,Bq st tm w lam a u→Bq st1 tm w lam a u
theorem Eu:upd Ao 0 (([],[]):List AV×List Value)=Ao:=by grind [upd,Ao]
theorem AbS(R:Ax E lam z fp Ao st tm w)(F:Refs st tm w lam){mem:Bool}{o:Operand}{x:Opd}(ho:AE E.P o=some x){s:SV}{st1:St}(h:(st.take mem x).holds (·=(s,st1)))(ds:List Deferred):
  ∃fp',Took E lam z mem st tm w s (Act.eval ⟨tm,ds⟩ o) st1 fp':=by
 unfold St.take at h;simp only[M.Aa]at h;rw[M.Aw]at h;obtain⟨s0,h0,h⟩:=h;rw[M.Aw]at h;obtain⟨⟨l,st',rs⟩,h1,h⟩:=h;rw[M.Ae]at h;cases h;obtain⟨hu,hr⟩:=EI R F rfl ho h0 ds
 have R0:Ax E lam z fp (upd Ao 0 ([],[])) st tm w:=by grind [Eu]
 obtain⟨fp',R1,S1,hl,hc,hm⟩:=JI st mem s0.cells (vcells s0 (Act.eval ⟨tm,ds⟩ o)) st [] [] [] fp l st' rs R0 (Sh.refl st) hu.cells hr h1;obtain⟨hf1,hf2,hf3⟩:=hu.fits hl;simp only[Qd3]at R1 S1;refine⟨fp',⟨?_,F.shift S1,?_,hf1,?_,?_,fun a u h=>h.shift S1⟩⟩
 ·rw[hf2,hf3];exact R1.bumps rs
 ·intro j a u hj hu';rw[hf2]at hj;rw[hf3]at hu';exact(hc j a u hj hu').shift S1
 ·grind [Cq,S1.next]
 grind
def NB(tm:Array Value)(dst:Option Nat)(v:Value):Array Value:=
 match dst with
 |some d=>tm.setIfInBounds d v
 |none=>tm
theorem put_eq(tm:Array Value)(ds:List Deferred)(dst:Option Nat)(v:Value):(Act.put ⟨tm,ds⟩ dst v)=⟨NB tm dst v,ds⟩:=by cases dst<;>rfl
def OpW(E:Env)(tm:Array Value)(ds:List Deferred)(w:World)(o:Oper)(st':St):Prop:=
 ∃r w',(execOp (Act.eval ⟨tm,ds⟩) o).run E.P w=.ok r w'∧((∃v,r=.value v∧Rel E st' (NB tm o.dst v) w')∨(r=.skip∧Rel E st' (NB tm o.dst undef) w'))
theorem Arq(R:Ax E lam z fp Ao st tm w)(F:Refs st tm w lam){o:Oper}{x:Operand}{a:Opd}{d:Nat}(ho:o.op=.assign x)(ha:AE E.P x=some a)(hdst:o.dst=some d)(hd:d<E.nt){st':St}
  (h:(st.Ja o.dst (.asg a)).holds (·=st')):OpW E tm ds w o st':=by
 simp only[St.Ja,hdst,M.Aa]at h;rw[M.Aw]at h;obtain⟨⟨s,st1⟩,h1,h⟩:=h;rw[M.Ae]at h;subst h;obtain⟨fp',T⟩:=AbS R F ha h1 ds;refine⟨.value (Act.eval ⟨tm,ds⟩ x),w,by simp[execOp,ho],.inl ⟨_,rfl,?_⟩⟩;rw[hdst];have hk:=T.rel.keys (.h 0);simp only[AQ,upd,if_true]at hk
 have R2:=T.rel.PR 0 d (.val true s) (Act.eval ⟨tm,ds⟩ x) hd ⟨fun _=>T.fits _ _ _ hk,fun h=>nomatch h⟩ (if(st1.sl d).CI then upd st1.vs d (st1.vs d+1)else st1.vs) st1.hv;rw[N1]at R2;exact⟨lam,z,_,R2,T.refs.set (by grind [R.tsz]) T.own⟩
theorem Ax.lits(R:Ax E lam z fp Ao st tm w)(l:List Value)(h:l.all Value.oneCell'=true):∃fp',Ax E lam z fp' (upd Ao 0 (l.map .lit,l)) st tm w:=
 ⟨_,R.turn 0 (Moves.refl _ w) (RVs.lits l h) Qb6 (fun _ h=>nomatch h)⟩
theorem Ax.newObj(R:Ax E lam z fp (upd Ao 0 (hd 0)) st tm w)(e:TypeId):
  ∃fp',Ax E (upd lam st.hp.next w.heap.size) z fp' Ao ⟨st.sl,st.hp.alloc (hd 0).1,st.vs,st.hv⟩ tm (w.alloc (.cells (hd 0).2.toArray e)):=by
 have hk0:=R.keys (.h 0);simp only[AQ,upd,if_true]at hk0
 have hC:(ctx E lam z st.hp.next).Le (ctx E (upd lam st.hp.next w.heap.size) z (st.hp.next+1)):=
  ⟨rfl,fun o ho=>by simp only[ctx,upd]at ho⊢<;>grind,by simp[ctx],fun _ h=>h,fun _ h=>h⟩
 have hb:∀b,b<w.heap.size→(w.alloc (.cells (hd 0).2.toArray e)).heap[b]?=w.heap[b]?:=fun b h=>heap_alloc_old w _ h
 have hz:∀b,(ctx E lam z st.hp.next).zb b→(w.alloc (.cells (hd 0).2.toArray e)).heap[b]?=w.heap[b]?:=fun b h=>hb b (R.AgP h)
 have hk:∀κ,∀b,b∈fp κ→(w.alloc (.cells (hd 0).2.toArray e)).heap[b]?=w.heap[b]?:=fun κ b h=>hb b (R.fps.ok κ b h).1
 have hfresh:∀κ,w.heap.size∉fp κ:=fun κ h=>by have:=(R.fps.ok κ _ h).1;omega
 refine⟨upk (upk fp (.h 0) []) (.o st.hp.next) (w.heap.size::fp (.h 0)),⟨?_,?_,fun b h=>⟨by have:=(R.z b h).1;grind,(R.z b h).2⟩,fun b h hf=>(hb b (Qa5 h R.size)).trans (R.frame b h hf),R.os,R.tape,R.output,
  by have:=R.size;simp;omega,R.tsz,⟨Nat.le_succ_of_le R.base.1,fun o ho=>by
   have:=R.base.1;simp only[upd];rw[if_neg zm]
   exact R.base.2 o ho⟩,R.i0⟩⟩
 ·intro κ
  by_cases h1:κ=.o st.hp.next
  ·subst h1;rw[FW];intro l hl;simp only[Heap.alloc,upd,if_true,Qa0]at hl;subst hl;refine⟨Nat.lt_succ_self _,(hd 0).2.toArray,e,fp (.h 0),?_,by grind [Heap.alloc,RVs.frame],by simp[ctx,upd,Heap.alloc]⟩
   simp only[ctx,upd,if_true,Heap.alloc]<;>grind [heap_alloc_new]
  ·rw[BA _ _ h1]
   by_cases h2:κ=.h 0
   ·subst h2;rw[FW];simp only[AQ,Ao];exact .nil
   ·rw[BA _ _ h2];have:=(R.keys κ).frame hC hz (hk κ)
    cases κ with
    |s t=>trivial
    |h i=>
     grind [AQ,upd,Heap.alloc]
    |o o'=>
     have ho:o'≠st.hp.next:=fun e=>h1 (by rw[e])
     intro l hl;simp only[Heap.alloc,upd,if_neg ho]at hl;exact this l hl
 ·refine R.fps.two R.size (fun b h=>(R.z b h).1) zsz (.h 0) (.o st.hp.next) _ (fun κ h1 h2=>by grind [BA]) ?_ ?_ ?_ ?_ ?_
  ·grind [BA,FW]
  ·rw[FW,List.nodup_cons];exact⟨hfresh _,R.fps.nod _⟩
  ·grind [BA,FW]
  ·grind [BA,FW]
  simp_all
theorem Bq.newObj(R:Ax E lam z fp hd st tm w){l:List AV}{ob:Obj}{a:AV}{u:Value}(h:Bq st tm w lam a u)(hw:∀o l,st.hp.get o=some l→o<st.hp.next):
  Bq ⟨st.sl,st.hp.alloc l,st.vs,st.hv⟩ tm (w.alloc ob) (upd lam st.hp.next w.heap.size) a u:=by
 have hb:∀κ,∀b,b∈fp κ→(w.alloc ob).heap[b]?=w.heap[b]?:=fun κ b h=>heap_alloc_old w _ (R.fps.ok κ b h).1
 have same:∀(p:Place) (k:Nat) (xs:List (List AV)),st.at p=some (.sl .own k xs)→St.at ⟨st.sl,st.hp.alloc l,st.vs,st.hv⟩ p=st.at p∧
   conc ⟨st.sl,st.hp.alloc l,st.vs,st.hv⟩ tm (w.alloc ob) (upd lam st.hp.next w.heap.size) p=conc st tm w lam p:=by
  intro p k xs hat;have h1:=Iv (w':=w.alloc ob) R hat (hb _)
  cases hr:p.root with
  |slot t j=>
   grind [St.at,St.root,conc,BE]
  |obj o c=>
   have ho:o<st.hp.next:=by
    simp only[St.at,hr]at hat
    cases hro:st.root (.obj o c)<;>grind [St.Fg]
   have hne:o≠st.hp.next:=zm
   simp_all [St.at,St.root,Heap.alloc,upd,conc,BE]
 cases a with
 |ref p ver k lo n=>
  refine⟨h.1,fun hv=>?_⟩
  obtain⟨xs,v0,k1,k2,k3⟩:=h.2 hv<;>grind
 |adr p ver k i c=>
  refine⟨h.1,fun hv=>?_⟩
  obtain⟨xs,b,off,len,cap,k1,k2,k3⟩:=h.2 hv<;>grind
 |_=>exact trivial
theorem Ax.wf(R:Ax E lam z fp hd st tm w):∀o l,st.hp.get o=some l→o<st.hp.next:=fun o l h=>(R.keys (.o o) l h).1
theorem Rel.newVar(R:Ax E lam z fp (upd Ao 0 (hd 0)) st tm w)(F:Refs st tm w lam)(e:TypeId){d:Nat}(hdn:d<E.nt):
  Rel E (St.set ⟨st.sl,st.hp.alloc (hd 0).1,st.vs,st.hv⟩ d (V (.ptr st.hp.next 0))) (tm.setIfInBounds d (.pointer (some ⟨w.heap.size,0,none⟩))) (w.alloc (.cells (hd 0).2.toArray e)):=by
 obtain⟨fp',R1⟩:=R.newObj (hd:=hd) e
 have F1:Refs ⟨st.sl,st.hp.alloc (hd 0).1,st.vs,st.hv⟩ tm (w.alloc (.cells (hd 0).2.toArray e)) (upd lam st.hp.next w.heap.size):=
  fun t s hs j a u hj hu=>(F t s hs j a u hj hu).newObj R R.wf
 refine Rel.result R1 F1 (ROk.one (a:=.ptr st.hp.next 0) (v:=.pointer (some ⟨w.heap.size,0,none⟩)) ?_ trivial) hdn;have:=RV.ptr (C:=ctx E (upd lam st.hp.next w.heap.size) z (st.hp.next+1)) (w:=w.alloc (.cells (hd 0).2.toArray e)) st.hp.next 0 (Nat.lt_succ_self _);simp_all [ctx,upd,Heap.alloc]
theorem An7(R:Ax E lam z fp Ao st tm w)(F:Refs st tm w lam){o:Oper}{e:TypeId}{zs:List Value}{d:Nat}(ho:o.op=.alloc e)(hz:zeroOf? E.P e=some zs)(hdst:o.dst=some d)(hd:d<E.nt){st':St}
  (h:(st.Ja o.dst (.alloc zs)).holds (·=st')):OpW E tm ds w o st':=by
 simp only[St.Ja,hdst]at h;rw[M.Ae]at h;subst h;obtain⟨it,zv,hit,hzv,hzl,hza⟩:=M1 hz;obtain⟨fp',R1⟩:=R.lits zs hza;have:=Rel.newVar (hd:=upd Ao 0 (zs.map .lit,zs)) (by trivial) F e hd;refine⟨.value (.pointer (some ⟨w.heap.size,0,none⟩)),w.alloc (.cells zv.cells e),?_,.inl ⟨_,rfl,?_⟩⟩
 ·simp_all [execOp,Instr.alloc,zeroValue,typeInfo,newVar,newRow]
 ·have e1:zs.toArray=zv.cells:=by grind
  grind [upd,NB]
theorem Arr(R:Ax E lam z fp Ao st tm w)(F:Refs st tm w lam){o:Oper}{e:TypeId}{x:Operand}{a:Opd}{d:Nat}(ho:o.op=.box e x)(ha:AE E.P x=some a)(hdst:o.dst=some d)(hd:d<E.nt){st':St}
  (h:(st.Ja o.dst (.box a)).holds (·=st')):OpW E tm ds w o st':=by
 simp only[St.Ja,hdst,M.Aa]at h;rw[M.Aw]at h;obtain⟨⟨s,st1⟩,h1,h⟩:=h;rw[M.Ae]at h;subst h;obtain⟨fp',T⟩:=AbS R F ha h1 ds;have hk:=T.rel.keys (.h 0);simp only[AQ,upd,if_true]at hk;have hv:=K7 (T.fits _ _ _ hk);have:=Rel.newVar (hd:=upd Ao 0 (s.cells,vcells s (Act.eval ⟨tm,ds⟩ x))) (by simpa[upd]using T.rel) T.refs e hd
 refine⟨.value (.pointer (some ⟨w.heap.size,0,none⟩)),w.alloc (.cells (Act.eval ⟨tm,ds⟩ x).cells e),?_,.inl ⟨_,rfl,?_⟩⟩
 ·simp[execOp,ho,Instr.box,newVar,newRow]
 ·have e1:(vcells s (Act.eval ⟨tm,ds⟩ x)).toArray=(Act.eval ⟨tm,ds⟩ x).cells:=by grind
  grind [upd,NB]
end
end Go.VS
namespace Go.VS
theorem AV.UN:∀(p:List Stp) {a x:AV} (b:AV),a.at p=some x→(a.put p b).at p=some b
 |[],_,_,_,_=>rfl
 |s::r,a,x,b,h=>by
  cases a with
  |sl τ k xs=>
   cases τ with
   |own=>
    simp only[AV.at]at h;split at h
    case isFalse=>cases h
    rename_i hk
    cases hx:(xs[s.i]?).bind (·[s.c]?)with
    |none=>grind
    |some a1=>
     rw[hx]at h;have ih:=AV.UN r b (show a1.at r=some x from h)
     cases hxi:xs[s.i]?<;>grind [AV.put,AV.at]
   |_=>trivial
  |_=>simp[AV.at]at h
theorem AV.Ahy:∀(p:List Stp) (a x y:AV),(∃b,a.at p=some b)→(a.put p x).put p y=a.put p y
 |[],_,_,_,_=>rfl
 |s::r,a,x,y,⟨b,h⟩=>by
  cases a with
  |sl τ k xs=>
   cases τ with
   |own=>
    simp only[AV.at]at h;split at h
    case isFalse=>cases h
    rename_i hk;simp only[AV.put,hk,if_true]
    congr 1
    apply Qb4;intro i;simp only[Qb0]
    cases hxi:xs[i]?with
    |none=>simp
    |some el=>
     simp only[Qb1,Qa4]
     by_cases hi:s.i=i
     ·simp only[hi,if_true]
      congr 1
      apply Qb4;intro c;simp only[Qb0]
      cases hc:el[c]?with
      |none=>simp
      |some u=>
       simp only[Qb1,Qa4]
       by_cases hcc:s.c=c
       ·simp only[hcc,if_true]
        have:u.at r=some b:=by
         grind
        rw[AV.Ahy r u x y ⟨b,this⟩]
       grind
     grind
   |_=>rfl
  |_=>simp[AV.at]at h
theorem AV.X4:∀(p:List Stp) {a:AV} {k:Nat} {xs:List (List AV)} (i c:Nat) (b:AV),a.at p=some (.sl .own k xs)→
  a.put (p++[⟨i,k,c⟩]) b=a.put p (.sl .own k (xs.modify i (·.modify c (fun _=>b))))
 |[],a,k,xs,i,c,b,h=>by
  grind [AV.at,AV.put]
 |s::r,a,k,xs,i,c,b,h=>by
  cases a with
  |sl τ k0 xs0=>
   cases τ with
   |own=>
    simp only[AV.at]at h;split at h
    case isFalse=>cases h
    rename_i hk;simp only[Qc8,AV.put,hk,if_true]
    congr 1
    apply Qb4;intro j;simp only[Qb0]
    cases hxi:xs0[j]?with
    |none=>simp
    |some el=>
     simp only[Qb1,Qa4]
     by_cases hi:s.i=j
     ·simp only[hi,if_true]
      congr 1
      apply Qb4;intro c';simp only[Qb0]
      cases hc:el[c']?with
      |none=>simp
      |some u=>
       simp only[Qb1,Qa4]
       by_cases hcc:s.c=c'
       ·simp only[hcc,if_true]
        have:u.at r=some (.sl .own k xs):=by
         grind
        rw[AV.X4 r i c b this]
       grind
     grind
   |_=>rfl
  |_=>simp[AV.at]at h
theorem AV.RL:∀(p q:List Stp) {a x:AV} {k:Nat} {xs:List (List AV)} (b:AV),a.at p=some x→a.at q=some (.sl .own k xs)→Aside p q→∃xs',(a.put p b).at q=some (.sl .own k xs')
 |[],q,_,_,_,_,_,_,_,h=>absurd ⟨q,rfl⟩ h
 |s::r,[],a,x,k,xs,b,hp,hq,_=>by
  grind [AV.at,AV.put]
 |s::r,t::q,a,x,k,xs,b,hp,hq,h=>by
  cases a with
  |sl τ k0 xs0=>
   cases τ with
   |own=>
    simp only[AV.at]at hp hq;split at hp
    case isFalse=>cases hp
    rename_i hk;split at hq
    case isFalse=>cases hq
    rename_i hk2;simp only[AV.put,hk,if_true,AV.at,hk2];rw[Qb0]
    cases hxi:xs0[t.i]?with
    |none=>grind
    |some el=>
     rw[hxi]at hq;simp only[Qa1]at hq;simp only[Qb1,Qa4,Qa1]
     cases hc:el[t.c]?with
     |none=>grind
     |some u=>
      rw[hc]at hq;simp only[Qa1]at hq
      by_cases hi:s.i=t.i
      ·simp only[hi,if_true];rw[Qb0,hc];simp only[Qb1,Qa4,Qa1]
       by_cases hcc:s.c=t.c
       ·simp only[hcc,if_true]
        have hst:s=t:=by cases s;cases t;simp_all
        have hp':u.at r=some x:=by
         grind
        exact AV.RL r q b hp' hq (fun⟨w,hw⟩=>h ⟨w,zg⟩)
       grind
      grind
   |_=>trivial
  |_=>simp[AV.at]at hp
section
variable{E:Env}{lam:Nat→Nat}{z:Nat→Prop}{fp:Ky→List Nat}{hd:Hands}{st:St}{tm:Array Value}{w:World}{ds:List Deferred}
theorem H8{α:Type}(f:Nat→α)(t:Nat)(x y:α):upd (upd f t x) t y=upd f t y:=by
 grind [upd]
theorem SV.setCell_setCell(s:SV)(j:Nat)(x y:AV):(s.setCell j x).setCell j y=s.setCell j y:=by
 cases s with
 |one a=>cases j<;>rfl
 |agg l=>simp[SV.setCell]
theorem VL(r:Root)(x y:AV)(h:∃a,st.root r=some a):(st.Au r x).Au r y=st.Au r y:=by
 obtain⟨a,h⟩:=h
 cases r with
 |slot t j=>
  obtain⟨s,hs,hj⟩:=St.Fk h
  have e:upd st.sl t (TV.val true (s.setCell j x)) t=TV.val true (s.setCell j x):=by simp[upd]
  simp_all [St.Au,TV.setCell,SV.setCell_setCell,H8]
 |obj o c=>
  obtain⟨l,hg,hc⟩:=St.Fg h
  have e:upd st.hp.get o (some (l.set c x)) o=some (l.set c x):=by simp[upd]
  simp_all [St.Au,Heap.set,H8]
theorem ND(r:Root)(x:AV){a:AV}(h:st.root r=some a):(st.Au r x).root r=some x:=by
 cases r with
 |slot t j=>
  obtain⟨s,hs,hj⟩:=St.Fk h
  simp only[St.Au,St.root,upd,if_true,hs,TV.setCell,TV.cell]<;>grind [SV.GL]
 |obj o c=>
  obtain⟨l,hg,hc⟩:=St.Fg h
  simp only[St.Au,hg,St.root,Heap.set,upd,if_true,Qa1]<;>grind
theorem KV{r r':Root}{x a:AV}(h:st.root r=some a)(hne:r'≠r):(st.Au r x).root r'=st.root r':=by
 cases r with
 |slot t j=>
  obtain⟨s,hs,hj⟩:=St.Fk h
  cases r' with
  |obj o c=>rfl
  |slot t' j'=>
   simp only[St.Au,St.root,upd]<;>grind [TV.setCell,TV.cell,SV.GL]
 |obj o c=>
  obtain⟨l,hg,hc⟩:=St.Fg h
  cases r' with
  |slot t j=>grind [St.Au,St.root]
  |obj o' c'=>
   simp only[St.Au,hg,St.root,Heap.set,upd]<;>grind
theorem AdE{p:Place}(x y:AV)(h:∃b,st.at p=some b):(st.putAt p x).putAt p y=st.putAt p y:=by
 obtain⟨b,h⟩:=h;simp only[St.at]at h
 cases ha:st.root p.root with
 |none=>grind
 |some a=>
  rw[ha]at h;simp only[Qa1]at h;simp only[St.putAt,ha,ND p.root _ ha];rw[VL _ _ _ ⟨a,ha⟩,AV.Ahy p.path a x y ⟨b,h⟩]
theorem Aj1{p:Place}(x:AV){b:AV}(h:st.at p=some b):(st.putAt p x).at p=some x:=by
 simp only[St.at]at h
 cases ha:st.root p.root with
 |none=>grind
 |some a=>
  rw[ha]at h;simp only[Qa1]at h;simp only[St.putAt,ha,St.at,ND p.root _ ha,Qa1];exact AV.UN p.path x h
theorem Abw{p:Place}{k:Nat}{xs:List (List AV)}(i c:Nat)(b:AV)(h:st.at p=some (.sl .own k xs)):
  st.putAt ⟨p.root,p.path++[⟨i,k,c⟩]⟩ b=st.putAt p (.sl .own k (xs.modify i (·.modify c (fun _=>b)))):=by
 simp only[St.at]at h
 cases ha:st.root p.root with
 |none=>grind
 |some a=>
  rw[ha]at h;simp only[Qa1]at h;simp only[St.putAt,ha];rw[AV.X4 p.path i c b h]
structure Ch(tm:Array Value)(lam:Nat→Nat)(Q:Place→Prop)(st:St)(w:World)(st':St)(w':World):Prop where
 refs:∀t s',st'.sl t=.val true s'→∃s,st.sl t=.val true s∧vcells s' (tm.getD t undef)=vcells s (tm.getD t undef)∧∀(j:Nat) (a:AV),s'.cells[j]?=some a→s.cells[j]?=some a∨(∀p v k lo n,a≠.ref p v k lo n)∧∀p v k i c,a≠.adr p v k i c
 vs:st'.vs=st.vs
 hv:st'.hv=st.hv
 next:st'.hp.next=st.hp.next
 pres:∀q k xs,st.at q=some (.sl .own k xs)→Q q→(∃xs',st'.at q=some (.sl .own k xs'))∧conc st' tm w' lam q=conc st tm w lam q
theorem Ch.refl(Q:Place→Prop)(st:St)(w:World):Ch tm lam Q st w st w:=⟨fun _ s' h=>⟨s',h,rfl,fun _ _ h=>.inl h⟩,rfl,rfl,rfl,fun _ _ xs h _=>⟨⟨xs,h⟩,rfl⟩⟩
theorem Ch.trans{Q:Place→Prop}{a b c:St}{u v x:World}(h:Ch tm lam Q a u b v)(k:Ch tm lam Q b v c x):Ch tm lam Q a u c x:=by
 refine⟨fun t s' hs=>?_,k.vs.trans h.vs,k.hv.trans h.hv,k.next.trans h.next,fun q kk xs hq hQ=>?_⟩
 ·obtain⟨s1,h1,e1,h2⟩:=k.refs t s' hs
  obtain⟨s2,h3,e2,h4⟩:=h.refs t s1 h1<;>grind
 ·obtain⟨⟨xs1,h1⟩,e1⟩:=h.pres q kk xs hq hQ
  obtain⟨h2,e2⟩:=k.pres q kk xs1 h1 hQ<;>grind
theorem Bq.ch{Q:Place→Prop}{st':St}{w':World}(S:Ch tm lam Q st w st' w'){bump:Bool}{r:Root}(hQ:∀q k xs,st.at q=some (.sl .own k xs)→(bump=true→(st'.bump r).ver q.root=st'.ver q.root)→Q q)
  {a:AV} {u:Value} (h:Bq st tm w lam a u):Bq (if bump then st'.bump r else st') tm w' lam a u:=by
 have live:∀(p:Place) (ver k:Nat) (xs:List (List AV)),ver≤st.ver p.root→ver≤(if bump then st'.bump r else st').ver p.root∧
   (ver=(if bump then st'.bump r else st').ver p.root→ver=st.ver p.root∧(st.at p=some (.sl .own k xs)→(∃xs',(if bump then st'.bump r else st').at p=some (.sl .own k xs'))∧conc (if bump then st'.bump r else st') tm w' lam p=conc st tm w lam p)):=by
  intro p ver k xs hv;have e:=Fl S.vs S.hv p.root
  cases bump with
  |false=>
   refine⟨zg,fun he=>?_⟩;simp only[Bool.false_eq_true,if_false]at he⊢;refine⟨zm,fun hat=>S.pres p k xs hat (hQ p k xs hat (fun h=>nomatch h))⟩
  |true=>
   simp only[if_true];have hle:=Po st' r p.root;refine⟨zm,fun he=>⟨zm,fun hat=>?_⟩⟩;have h1:=S.pres p k xs hat (hQ p k xs hat (fun _=>zm));have e1:(st'.bump r).at p=st'.at p:=Ab7 (st:=st') [r] p;have e2:conc (st'.bump r) tm w' lam p=conc st' tm w' lam p:=WI (st:=st') [r] p
   grind
 cases a with
 |ref p ver k lo n=>
  refine⟨(live p ver k [] h.1).1,fun hv=>?_⟩;obtain⟨xs,v0,k1,k2,k3⟩:=h.2 ((live p ver k [] h.1).2 hv).1
  obtain⟨⟨xs',h4⟩,h5⟩:=((live p ver k xs h.1).2 hv).2 k1<;>grind
 |adr p ver k i c=>
  refine⟨(live p ver k [] h.1).1,fun hv=>?_⟩;obtain⟨xs,b,off,len,cap,k1,k2,k3⟩:=h.2 ((live p ver k [] h.1).2 hv).1
  obtain⟨⟨xs',h4⟩,h5⟩:=((live p ver k xs h.1).2 hv).2 k1<;>grind
 |_=>exact trivial
theorem Refs.ch{Q:Place→Prop}{st':St}{w':World}(S:Ch tm lam Q st w st' w'){bump:Bool}{r:Root}(hQ:∀q k xs,st.at q=some (.sl .own k xs)→(bump=true→(st'.bump r).ver q.root=st'.ver q.root)→Q q)
  (F:Refs st tm w lam):Refs (if bump then st'.bump r else st') tm w' lam:=by
 intro t s' hs j a u hj hu
 have hs':st'.sl t=.val true s':=by
  cases bump with
  |false=>exact hs
  |true=>rw[←hs];exact congrFun (Cq st' [r]).1.symm t
 obtain⟨s,h1,h2,h3⟩:=S.refs t s' hs';rw[h2]at hu
 rcases h3 j a hj with h4|h4
 ·exact(F t s h1 j a u h4 hu).ch S hQ
 grind [Bq.XT]
theorem Ax.part(R:Ax E lam z fp hd st tm w)(i j:Nat)(hij:j≠i){l1 l2:List AV}{m1 m2:List Value}(hh:hd i=(l1++l2,m1++m2))(hl:l1.length=m1.length):
  ∃fp',Ax E lam z fp' (upd (upd hd i (l1,m1)) j (l2,m2)) st tm w:=by
 have h1:=R.keys (.h i);simp only[AQ,hh]at h1;obtain⟨n1,n2,f1,f2,hm,hf,r1,r2⟩:=RVs.split l1 h1
 have hn:n1=m1∧n2=m2:=by
  have:=Qd5 hm (by grind [r1.length])
  grind
 obtain⟨rfl,rfl⟩:=hn;have hnd:=R.fps.nod (.h i);rw[hf,Qa6]at hnd;refine⟨_,R.pass (hd':=upd (upd hd i (l1,n1)) j (l2,n2)) (st':=st) (tm':=tm) (.h i) (.h j) zg (Moves.refl _ w) rfl rfl ?_ ?_ ?_ hnd.1 hnd.2.1 (fun b hb hb'=>hnd.2.2 b hb b hb' rfl) (fun b hb=>.inl zg) (fun b hb=>.inl zg)⟩
 ·grind [OY,upd]
 ·grind [AQ,upd]
 grind [AQ,upd]
theorem Sy(w:World):∀(p:List Stp) (v:Value) (s:Stp) {b off len cap:Nat},DK w v p=some (.slice (some ⟨b,off,none⟩) len cap)→Z1 w v (p++[s])=some ⟨b,off+s.i*s.k+s.c,none⟩
 |[],v,s,b,off,len,cap,h=>by simp only[DK,Qa0]at h;subst h;rfl
 |t::r,v,s,b,off,len,cap,h=>by
  match v with
  |.slice (some ad) n c=>
   simp only[DK]at h
   cases hc:w.cell? ⟨ad.block,ad.off+t.i*t.k+t.c,none⟩with
   |none=>grind
   |some u=>
    rw[hc]at h;have ih:=Sy w r u s (show DK w u r=_ from h)
    grind [Z1]
  |.slice none n c=>trivial
  |.bool _=>trivial
  |.int _ _=>trivial
  |.float _ _=>trivial
  |.complex _ _ _=>trivial
  |.string _=>trivial
  |.pointer _=>trivial
  |.map _=>trivial
  |.chan _=>trivial
  |.func _ _ _=>trivial
  |.nilFunc=>trivial
  |.iface _ _=>trivial
  |.nilIface=>trivial
  |.agg _=>trivial
  |.tuple _=>trivial
theorem AiU:∀(p:List Stp) {a x:AV} (b:AV),p≠[]→a.at p=some x→∃k xs,a.put p b=.sl .own k xs
 |[],_,_,_,h,_=>absurd rfl h
 |s::r,a,x,b,_,h=>by
  cases a with
  |sl τ k xs=>
   cases τ<;>grind [AV.put,AV.at]
  |_=>simp[AV.at]at h
theorem Ax.ArC(R:Ax E lam z fp hd st tm w)(j:Nat){p:Place}{k i c:Nat}{xs:List (List AV)}{b':AV}{v':Value}(hh:hd j=([b'],[v']))(hat:st.at p=some (.sl .own k xs))(hi:i<xs.length)(hc:c<k)
  {b off len cap:Nat} (hconc:conc st tm w lam p=some (.slice (some ⟨b,off,none⟩) len cap)):
  ∃u fp',w.cell? ⟨b,off+i*k+c,none⟩=some u∧w.frozen? ⟨b,off+i*k+c,none⟩=false∧
   Ax E lam z fp' (upd hd j ([],[])) (st.putAt p (.sl .own k (xs.set i ((xs.getD i []).set c b')))) tm (w.setCell ⟨b,off+i*k+c,none⟩ v')∧
   Ch tm lam (fun q=>q.root=p.root→Aside (p.path++[⟨i,k,c⟩]) q.path) st w (st.putAt p (.sl .own k (xs.set i ((xs.getD i []).set c b')))) (w.setCell ⟨b,off+i*k+c,none⟩ v')∧
   ∀x∈xs,x.length=k:=by
 obtain⟨u0,f0,hc0,hr0,_⟩:=R.Pz hat
 have hlen:∀x∈xs,x.length=k:=by
  cases hr0<;>grind
 have hel:(xs.getD i []).length=k:=OS hlen hi
 have hcell:(xs[i]?).bind (·[c]?)=some ((xs.getD i [])[c]'zm):=by
  grind
 have hat2:st.at ⟨p.root,p.path++[⟨i,k,c⟩]⟩=some ((xs.getD i [])[c]'zm):=by
  simp only[St.at]at hat⊢
  cases hr:st.root p.root<;>grind [AV.PA,AV.at]
 obtain⟨loc,u,fp',h1,h2,h3,h4,h5,h6,h7⟩:=R.U3 j ⟨p.root,p.path++[⟨i,k,c⟩]⟩ hh hat2 zsz
 have hloc:loc=⟨b,off+i*k+c,none⟩:=by
  simp only[conc]at hconc
  cases hrv:BE st tm w lam p.root with
  |none=>grind
  |some rv=>
   rw[hrv]at hconc;simp only[hrv,Qa1]at h1
   rw[Sy w p.path rv ⟨i,k,c⟩ (show DK w rv p.path=_ from hconc)]at h1<;>grind
 subst hloc
 have hput:st.putAt ⟨p.root,p.path++[⟨i,k,c⟩]⟩ b'=st.putAt p (.sl .own k (xs.set i ((xs.getD i []).set c b'))):=by
  rw[Abw i c b' hat]
  grind [Qb7,List.modify_eq_set]
 rw[hput]at h5 h7;refine⟨u,fp',h3,h4,h5,?_,hlen⟩;refine⟨?_,?_,?_,?_,fun q k' xs' hq hQ=>⟨?_,h7 q k' xs' hq hQ⟩⟩
 ·
  intro t s' hs';rw[←hput]at hs';have hat3:=hat2;simp only[St.at]at hat3
  cases hr:st.root p.root with
  |none=>grind
  |some a0=>
   rw[hr]at hat3;simp only[Qa1]at hat3;obtain⟨k9,xs9,hown⟩:=AiU (p.path++[⟨i,k,c⟩]) b' zsz hat3;simp only[St.putAt,hr,hown]at hs'
   cases hpr:p.root with
   |obj o c'=>
    rw[hpr]at hs'
    have:(st.Au (.obj o c') (.sl .own k9 xs9)).sl=st.sl:=by grind [St.Au]
    grind
   |slot t0 j0=>
    rw[hpr]at hs' hr;obtain⟨s,hs,hj⟩:=St.Fk hr
    simp only[St.Au,upd]at hs'<;>grind [TV.setCell,TV.val.injEq,Pn,SV.GL]
 ·grind [St.putAt,JH]
 ·grind [St.putAt,JH]
 ·grind [St.putAt,HW]
 ·rw[←hput];simp only[St.at]at hq hat2⊢
  cases hr:st.root p.root with
  |none=>grind
  |some a0=>
   rw[hr]at hat2;simp only[Qa1]at hat2;simp only[St.putAt,hr]
   by_cases hqr:q.root=p.root
   ·rw[hqr]at hq⊢;rw[hr]at hq;rw[ND p.root _ hr];exact AV.RL _ q.path b' hat2 hq (hQ hqr)
   grind [KV]
theorem RVs.cons_inv{C:Ctx}{w:World}{a:AV}{l:List AV}{m:List Value}{f:List Nat}(h:RVs C w (a::l) m f):∃v m' f1 f2,m=v::m'∧f=f1++f2∧RV C w a v f1∧RVs C w l m' f2:=by
 cases h<;>grind
theorem ZW{a:AV}{v:Value}{l:List AV}{m:List Value}(R:Ax E lam z fp (upd Ao 0 (a::l,v::m)) st tm w):∃fp',Ax E lam z fp' (upd (upd Ao 0 (l,m)) 1 ([a],[v])) st tm w:=by
 obtain⟨fp1,R1⟩:=R.part 0 1 zdz (l1:=[a]) (l2:=l) (m1:=[v]) (m2:=m) (by rfl) rfl
 have R1':Ax E lam z fp1 (upd (upd Ao 0 ([a],[v])) 1 (l,m)) st tm w:=by
  grind [upd,Ao,H8]
 obtain⟨fp2,R2⟩:=R1'.part 0 2 zdz (l1:=[]) (l2:=[a]) (m1:=[]) (m2:=[v]) (by rfl) rfl;obtain⟨fp3,R3⟩:=R2.part 1 0 zdz (l1:=[]) (l2:=l) (m1:=[]) (m2:=m) (by rfl) rfl;obtain⟨fp4,R4⟩:=R3.part 2 1 zdz (l1:=[]) (l2:=[a]) (m1:=[]) (m2:=[v]) (by rfl) rfl;refine⟨fp4,?_⟩
 have e:upd (upd (upd (upd (upd (upd (upd (upd Ao 0 ([a],[v])) 1 (l,m)) 0 ([],[])) 2 ([a],[v])) 1 ([],[])) 0 (l,m)) 2 ([],[])) 1 ([a],[v])=upd (upd Ao 0 (l,m)) 1 ([a],[v]):=by
  funext j
  grind [upd,Ao]
 grind
theorem Yg{P:Program}{w:World}{a:Addr}{v u:Value}(hv:v.oneCell'=true)(hc:w.cell? a=some u)(hf:w.frozen? a=false):(store a v).run P w=.ok () (w.setCell a v):=by
 grind [run_store]
theorem UW(x:List AV×List Value)(y:List AV×List Value):upd (upd (upd Ao 0 x) 1 y) 1 ([],[])=upd Ao 0 x:=by
 grind [upd,Ao]
theorem AhJ{p:Place}{k i:Nat}{b off len cap:Nat}{Q:Place→Prop}(hQp:Q p):∀(l:List AV) (m:List Value) (st:St) (w:World) (fp:Ky→List Nat) (xs:List (List AV)) (c i0 o:Nat),l≠[]→
  Ax E lam z fp (upd Ao 0 (l,m)) st tm w→st.at p=some (.sl .own k xs)→i<xs.length→c+l.length≤k→conc st tm w lam p=some (.slice (some ⟨b,off,none⟩) len cap)→o+i0=off+i*k+c→
  (∀j,c≤j→j<c+l.length→∀q,Q q→q.root=p.root→Aside (p.path++[⟨i,k,j⟩]) q.path)→
  ∃w' fp',(storeCells ⟨b,o,none⟩ m i0).run E.P w=.ok () w'∧Ax E lam z fp' Ao (st.putAt p (.sl .own k (xs.set i (setCells (xs.getD i []) c l)))) tm w'∧
   Ch tm lam Q st w (st.putAt p (.sl .own k (xs.set i (setCells (xs.getD i []) c l)))) w'
 |[],_,_,_,_,_,_,_,_,hne,_,_,_,_,_,_,_=>absurd rfl hne
 |a::l,m,st,w,fp,xs,c,i0,o,_,R,hat,hi,hcl,hconc,ho,hQ=>by
  have hk0:=R.keys (.h 0);simp only[AQ,upd,if_true]at hk0;obtain⟨v,m,_,_,rfl,_,ha1,_⟩:=hk0.cons_inv
  ·have hv1:v.oneCell'=true:=ha1.HX;obtain⟨fp1,R1⟩:=ZW R;simp only[List.length_cons]at hcl;obtain⟨u,fp2,hcell,hfz,R2,C2,hlen⟩:=R1.ArC 1 (b':=a) (v':=v) (c:=c) (by rfl) hat hi zm hconc;rw[UW]at R2
   have hloc:(⟨b,o,none⟩:Addr).add i0=⟨b,off+i*k+c,none⟩:=by
    grind [Addr.add]
   have hst:=Yg (P:=E.P) hv1 hcell hfz
   have C2':Ch tm lam Q st w (st.putAt p (.sl .own k (xs.set i ((xs.getD i []).set c a)))) (w.setCell ⟨b,off+i*k+c,none⟩ v):=
    ⟨C2.refs,C2.vs,C2.hv,C2.next,fun q k' xs' hq hQq=>C2.pres q k' xs' hq (fun hr=>hQ c (Qa7 _) zsz q hQq hr)⟩
   have hrun:∀r,(storeCells ⟨b,o,none⟩ m (i0+1)).run E.P (w.setCell ⟨b,off+i*k+c,none⟩ v)=r→(storeCells ⟨b,o,none⟩ (v::m) i0).run E.P w=r:=by
    grind [storeCells,Sem.run_bind,Result.andThen_ok]
   cases l with
   |nil=>
    have hk1:=R2.keys (.h 0);simp only[AQ,upd,if_true]at hk1
    have hm:m=[]:=by grind [hk1.length]
    subst hm;rw[Eu]at R2;exact⟨_,fp2,hrun _ rfl,R2,C2'⟩
   |cons a2 l2=>
    have hat2:=Aj1 (st:=st) (p:=p) (.sl .own k (xs.set i ((xs.getD i []).set c a))) hat;have hconc2:=(C2'.pres p k xs hat hQp).2.trans hconc
    have hget:(xs.set i ((xs.getD i []).set c a)).getD i []=(xs.getD i []).set c a:=by
     grind
    obtain⟨w',fp3,h1,h2,h3⟩:=AhJ (Q:=Q) hQp (a2::l2) m _ _ fp2 (xs.set i ((xs.getD i []).set c a)) (c+1) (i0+1) o zsz R2 hat2 zg zg hconc2 zm
     (fun j hj1 hj2=>hQ j zm zg)
    rw[hget]at h2 h3;rw[AdE _ _ ⟨_,hat⟩,List.set_set]at h2 h3;exact⟨w',fp3,hrun _ h1,h2,C2'.trans h3⟩
theorem AhK{o:Nat}{Q:Place→Prop}:∀(l:List AV) (m:List Value) (st:St) (w:World) (fp:Ky→List Nat) (lo:List AV) (c i0 c0:Nat),l≠[]→
  Ax E lam z fp (upd Ao 0 (l,m)) st tm w→st.hp.get o=some lo→c+l.length≤lo.length→c0+i0=c→
  (∀j,c≤j→j<c+l.length→∀q,Q q→q.root≠.obj o j)→
  ∃w' fp',(storeCells ⟨lam o,c0,none⟩ m i0).run E.P w=.ok () w'∧Ax E lam z fp' Ao ⟨st.sl,st.hp.set o (setCells lo c l),st.vs,st.hv⟩ tm w'∧
   Ch tm lam Q st w ⟨st.sl,st.hp.set o (setCells lo c l),st.vs,st.hv⟩ w'
 |[],_,_,_,_,_,_,_,_,hne,_,_,_,_,_=>absurd rfl hne
 |a::l,m,st,w,fp,lo,c,i0,c0,_,R,hg,hcl,ho,hQ=>by
  have hk0:=R.keys (.h 0);simp only[AQ,upd,if_true]at hk0;obtain⟨v,m,_,_,rfl,_,ha1,_⟩:=hk0.cons_inv
  ·have hv1:v.oneCell'=true:=ha1.HX;obtain⟨fp1,R1⟩:=ZW R;simp only[List.length_cons]at hcl
   have hroot:st.root (.obj o c)=some (lo[c]'zm):=by
    grind [St.root]
   obtain⟨u,fp2,hcell,hfz,R2,_,hcon⟩:=R1.putObj 1 o c (b':=a) (v':=v) (by rfl) hroot;rw[UW]at R2
   have hset:st.Au (.obj o c) a=⟨st.sl,st.hp.set o (lo.set c a),st.vs,st.hv⟩:=by grind [St.Au]
   rw[hset]at R2 hcon
   have hloc:(⟨lam o,c0,none⟩:Addr).add i0=⟨lam o,c,none⟩:=by
    grind [Addr.add]
   have hst:=Yg (P:=E.P) hv1 hcell hfz
   have C2':Ch tm lam Q st w ⟨st.sl,st.hp.set o (lo.set c a),st.vs,st.hv⟩ (w.setCell ⟨lam o,c,none⟩ v):=by
    refine⟨fun _ s' h=>⟨s',h,rfl,fun _ _ h=>.inl h⟩,rfl,rfl,rfl,fun q k' xs' hq hQq=>?_⟩<;>grind [St.at,KV]
   have hrun:∀r,(storeCells ⟨lam o,c0,none⟩ m (i0+1)).run E.P (w.setCell ⟨lam o,c,none⟩ v)=r→(storeCells ⟨lam o,c0,none⟩ (v::m) i0).run E.P w=r:=by
    grind [storeCells,Sem.run_bind,Result.andThen_ok]
   cases l with
   |nil=>
    have hk1:=R2.keys (.h 0);simp only[AQ,upd,if_true]at hk1
    have hm:m=[]:=by grind [hk1.length]
    subst hm;rw[Eu]at R2;exact⟨_,fp2,hrun _ rfl,R2,C2'⟩
   |cons a2 l2=>
    obtain⟨w',fp3,h1,h2,h3⟩:=AhK (Q:=Q) (a2::l2) m _ _ fp2 (lo.set c a) (c+1) (i0+1) c0 zsz R2 (by simp[Heap.set,upd]) zg zm
     (fun j hj1 hj2=>hQ j zm zg)
    have e:((st.hp.set o (lo.set c a)).set o (setCells (lo.set c a) (c+1) (a2::l2)))=st.hp.set o (setCells lo c (a::a2::l2)):=by
     grind [Heap.set,H8,VS.setCells]
    simp only[e]at h2 h3;exact⟨w',fp3,hrun _ h1,h2,C2'.trans h3⟩
end
end Go.VS
namespace Go.VS
section
variable{E:Env}{lam:Nat→Nat}{z:Nat→Prop}{fp:Ky→List Nat}{hd:Hands}{st:St}{tm:Array Value}{w:World}{ds:List Deferred}
theorem UX{l:List AV}{c n j:Nat}{a:AV}(h:l[j]?=some a)(ha:a.Ci=true)(h1:c≤j)(h2:j<c+n):((l.drop c).take n).any AV.Ci=true:=by
 rw[List.any_eq_true]
 refine⟨a,Qe4 (i:=j -c) ?_,ha⟩<;>grind
theorem UM{a:AV}{r:List Stp}{k:Nat}{xs:List (List AV)}(h:a.at r=some (.sl .own k xs)):a.Ci=true:=by
 cases r with
 |nil=>simp only[AV.at,Qa0]at h;subst h;rfl
 |cons s r=>
  cases a with
  |sl τ k xs=>cases τ<;>first|rfl|trivial
  |_=>simp[AV.at]at h
theorem Aae(tm:Array Value)(v:Value):NB tm none v=tm:=rfl
theorem An8(R:Ax E lam z fp Ao st tm w)(F:Refs st tm w lam){o:Oper}{t:TypeId}{xa xv:Operand}{a b:Opd}{n:Nat}(ho:o.op=.store t xa xv)(hdst:o.dst=none)(ha:AE E.P xa=some a)(hb:AE E.P xv=some b)
  (hn:sizeOf? E.P t=some n) (hn0:0<n) {st':St} (h:(st.Ja o.dst (.store n a b)).holds (·=st')):OpW E tm ds w o st':=by
 simp only[St.Ja,M.Aa]at h;rw[M.Aw]at h;obtain⟨⟨s,st1⟩,h1,h⟩:=h;obtain⟨fp',T⟩:=AbS R F hb h1 ds;dsimp only at h;split at h
 case isFalse=>trivial
 rename_i hsn;rw[M.Aa]at h;obtain⟨c,h2,h⟩:=BO h;obtain⟨hu,hur⟩:=EI T.rel T.refs rfl ha h2 ds;have hk:=T.rel.keys (.h 0);simp only[AQ,upd,if_true]at hk;have hvc:=K7 (T.fits _ _ _ hk);generalize hva:Act.eval ⟨tm,ds⟩ xa=ua at hu hur;generalize hvv:Act.eval ⟨tm,ds⟩ xv=uv at*
 have hsize:uv.cells.size=n:=by grind [hk.length]
 have hne:s.cells≠[]:=zg
 have hrun:∀(ad:Addr) (w':World),ua=.pointer (some ad)→(storeCells ad (vcells s uv) 0).run E.P w=.ok () w'→(execOp (Act.eval ⟨tm,ds⟩) o).run E.P w=.ok .skip w':=by
  simp_all [execOp,Instr.storeAt,Instr.sureAddr,storeVar,Sem.run_bind,Sem.run_pure,Result.andThen_ok,PS]
 split at h
 ·
  rename_i o' c'
  cases hg:st1.hp.get o' with
  |none=>simp only[hg]at h;trivial
  |some l=>
   simp only[hg,M.Aa,M.Ak]at h;obtain⟨hcn,h⟩:=h;rw[M.Ae]at h
   have hQ:∀j,c'≤j→j<c'+s.cells.length→∀q:Place,(∀j,c'≤j→j<c'+n→q.root≠.obj o' j)→q.root≠.obj o' j:=fun j h1 h2 q hq=>hq j h1 zg
   obtain⟨w',fp2,k1,k2,k3⟩:=AhK (o:=o') (Q:=fun q=>∀j,c'≤j→j<c'+n→q.root≠.obj o' j) s.cells (vcells s uv) st1 w fp' l c' 0 c' hne T.rel hg zg zsz hQ
   cases hu with
   |ptr _ _ _=>
    refine⟨.skip,w',hrun _ w' rfl k1,.inr ⟨rfl,?_⟩⟩;rw[hdst,Aae]
    have hF:=Refs.ch (bump:=((l.drop c').take n).any AV.Ci) (r:=.obj o' c') k3 (by
     intro q k xs hq hb j hj1 hj2 hr
     cases hbool:((l.drop c').take n).any AV.Ci with
     |true=>
      grind [St.bump,St.ver]
     |false=>
      simp only[St.at,hr]at hq
      cases hro:st1.root (.obj o' j)<;>grind [St.Fg,UX,UM]) T.refs
    subst h;refine⟨lam,z,fp2,?_,hF⟩;split
    ·exact k2.bumps [.obj o' c']
    grind
 ·
  rename_i p v k i c';split at h
  ·rename_i k' xs hat;simp only[M.Aa,M.Ak]at h;obtain⟨hv,hkk,hi,hcn,h⟩:=h;subst hkk;rw[M.Ae]at h;obtain⟨xs',bk,off,len,cap,q1,q2,q3⟩:=(hur.BU).2 hv;rw[hat]at q1;cases q1
   have hQp:(fun q:Place=>q.root=p.root→∀j,c'≤j→j<c'+n→Aside (p.path++[⟨i,k,j⟩]) q.path) p:=by
    intro _ j _ _ ⟨r,hr⟩<;>simp_all
   obtain⟨w',fp2,k1,k2,k3⟩:=AhJ (p:=p) (k:=k) (i:=i) (Q:=fun q:Place=>q.root=p.root→∀j,c'≤j→j<c'+n→Aside (p.path++[⟨i,k,j⟩]) q.path) hQp s.cells (vcells s uv) st1 w fp' xs c' 0 (off+i*k+c') hne T.rel hat hi
    zg q2 zsz (fun j h1 h2 q hq hr=>hq hr j h1 zg)
   refine⟨.skip,w',hrun _ w' q3 k1,.inr ⟨rfl,?_⟩⟩;rw[hdst,Aae]
   have hF:=Refs.ch (bump:=(((xs.getD i []).drop c').take n).any AV.Ci) (r:=p.root) k3 (by
    intro q k0 xs0 hq hb hr j hj1 hj2 ⟨r,hpath⟩
    cases hbool:(((xs.getD i []).drop c').take n).any AV.Ci with
    |true=>
     have h9:=hb hbool;rw[hr]at h9;have h8:=Tj (st1.putAt p (.sl .own k (xs.set i (setCells (xs.getD i []) c' s.cells)))) p.root [p.root] zsz
     grind [St.bumps]
    |false=>
     have hat':=hat;simp only[St.at,hr,hpath]at hq;simp only[St.at]at hat'
     cases hro:st1.root p.root with
     |none=>grind
     |some a0=>
      rw[hro]at hq hat';simp only[Qa1]at hq hat';rw[Qc4,AV.PA,hat']at hq
      grind [AV.at,UX,UM]) T.refs
   subst h;refine⟨lam,z,fp2,?_,hF⟩;split
   ·exact k2.bumps [p.root]
   grind
  trivial
 trivial
end
end Go.VS
namespace Go.VS
section
variable{E:Env}{lam:Nat→Nat}{z:Nat→Prop}{fp:Ky→List Nat}{hd:Hands}{st:St}{tm:Array Value}{w:World}{ds:List Deferred}
structure AoK(E:Env)(lam:Nat→Nat)(z:Nat→Prop)(mem:Bool)(st:St)(tm:Array Value)(w:World)(la:List AV)(lv:List Value)(s:SV)(v:Value)(st1:St)(fp:Ky→List Nat):Prop where
 rel:Ax E lam z fp (upd Ao 0 (la++s.cells,lv++vcells s v)) st1 tm w
 refs:Refs st1 tm w lam
 own:ES st1 tm w lam s v
 fits:Fits s v
 next:st1.hp.next=st.hp.next
 clean:mem=true→∀a∈s.cells,(∀p v k lo n,a≠.ref p v k lo n)∧∀p v k i c,a≠.adr p v k i c
 len:s.cells.length=(vcells s v).length
 cells:v.cells.toList=vcells s v
theorem Uw{la:List AV}{lv:List Value}(R:Ax E lam z fp (upd Ao 0 (la,lv)) st tm w)(F:Refs st tm w lam){mem:Bool}{o:Operand}{x:Opd}(ho:AE E.P o=some x){s:SV}{st1:St}(h:(st.take mem x).holds (·=(s,st1)))(ds:List Deferred):
  ∃fp',AoK E lam z mem st tm w la lv s (Act.eval ⟨tm,ds⟩ o) st1 fp':=by
 unfold St.take at h;simp only[M.Aa]at h;rw[M.Aw]at h;obtain⟨s0,h0,h⟩:=h;rw[M.Aw]at h;obtain⟨⟨l,st',rs⟩,h1,h⟩:=h;rw[M.Ae]at h;cases h;obtain⟨hu,hr⟩:=EI R F rfl ho h0 ds;obtain⟨fp',R1,S1,hl,hc,hm⟩:=JI st mem s0.cells (vcells s0 (Act.eval ⟨tm,ds⟩ o)) st [] la lv fp l st' rs R (Sh.refl st) hu.cells hr h1;obtain⟨hf1,hf2,hf3⟩:=hu.fits hl
 simp only[Qd3]at S1;refine⟨fp',⟨?_,F.shift S1,?_,hf1,?_,?_,?_,?_⟩⟩
 ·rw[hf2,hf3];exact R1.bumps rs
 ·intro j a u hj hu';rw[hf2]at hj;rw[hf3]at hu';exact(hc j a u hj hu').shift S1
 ·grind [Cq,S1.next]
 ·grind
 ·grind [hu.cells.length]
 grind [K7]
theorem Ax.hop{A O B N:List AV}{A' O' B' N':List Value}(R:Ax E lam z fp (upd Ao 0 (A++O++B++N,A'++O'++B'++N')) st tm w)
  (h1:A.length=A'.length) (h2:O.length=O'.length) (h3:B.length=B'.length):∃fp',Ax E lam z fp' (upd Ao 0 (A++N++B,A'++N'++B')) st tm w:=by
 have hk:=R.keys (.h 0);simp only[AQ,upd,if_true,Qc4]at hk;obtain⟨m1,m2,f1,f2,e1,ef1,r1,hk⟩:=RVs.split A hk;obtain⟨rfl,q1⟩:=Qd5 e1.symm (r1.length.symm.trans h1);subst q1;obtain⟨m3,m4,f3,f4,e2,ef2,r2,hk⟩:=RVs.split O hk;obtain⟨rfl,q2⟩:=Qd5 e2.symm (r2.length.symm.trans h2);subst q2
 obtain⟨m5,m6,f5,f6,e3,ef3,r3,r4⟩:=RVs.split B hk;obtain⟨rfl,q3⟩:=Qd5 e3.symm (r3.length.symm.trans h3);subst q3;have hn:=R.fps.nod (.h 0)
 have hfp:fp (.h 0)=f1++(f3++(f5++f6)):=zg
 rw[hfp]at hn
 have R2:=R.turn 0 (Moves.refl _ w) (l:=A++N++B) (m:=m1++m6++m5) (f:=f1++f6++f5) ((r1.append r4).append r3)
  (by
   grind)
  (fun b hb=>.inl zg)
 grind [H8]
theorem Tc{α:Type}:∀(N A O B:List α),O.length=N.length→setCells (A++O++B) A.length N=A++N++B
 |[],A,O,B,h=>by
  grind [VS.setCells]
 |n::N,A,o::O,B,h=>by
  simp only[VS.setCells]
  have e:(A++o::O++B).set A.length n=(A++[n])++O++B:=zsz
  have ih:=Tc N (A++[n]) O B zg
  grind
theorem WW(xs:List (List AV))(i:Nat)(hi:i<xs.length)(y:List AV):(xs.set i y).flatten=(xs.take i).flatten++y++(xs.drop (i+1)).flatten:=by
 simp_all [JV]
theorem Afq(xs:List (List AV))(i:Nat)(hi:i<xs.length):xs.flatten=(xs.take i).flatten++xs[i]++(xs.drop (i+1)).flatten:=by
 grind [WW,List.set_getElem_self]
theorem AdA{k len:Nat}:∀(ps:List (Nat×Operand)) (l:List (Nat×Opd)) (xs xs':List (List AV)) (arr:Array Value) (st st':St) (fp:Ky→List Nat),
  PB E.P len ps=some l→(Gi st k xs l).holds (·=(xs',st'))→Ax E lam z fp (upd Ao 0 (xs.flatten,arr.toList)) st tm w→Refs st tm w lam→(∀x∈xs,x.length=k)→xs.length=len→
  ∃arr' fp',Instr.fill (fun i=>some (i*k,k)) arr (ps.map fun(p:Nat×Operand)=>(p.1,Act.eval ⟨tm,ds⟩ p.2))=some arr'∧Ax E lam z fp' (upd Ao 0 (xs'.flatten,arr'.toList)) st' tm w∧
   Refs st' tm w lam∧(∀x∈xs',x.length=k)∧xs'.length=len
 |[],l,xs,xs',arr,st,st',fp,hp,h,R,F,hk,hlen=>by
  simp only[PB,Qa0]at hp;subst hp;simp only[Gi]at h;rw[M.Ae]at h;cases h;exact⟨arr,fp,rfl,R,F,hk,hlen⟩
 |(i,x)::ps,l,xs,xs',arr,st,st',fp,hp,h,R,F,hk,hlen=>by
  simp only[PB]at hp;split at hp
  case h_2=>cases hp
  rename_i y l' hy hl';split at hp
  case isFalse=>cases hp
  rename_i hi;simp only[Qa0]at hp;subst hp;simp only[Gi,M.Aa]at h;rw[M.Aw]at h;obtain⟨⟨s,st1⟩,h0,h⟩:=h;obtain⟨fp1,T⟩:=Uw R F hy h0 ds;dsimp only at h;split at h
  case isFalse=>trivial
  rename_i hsk
  have hil:i<xs.length:=zm
  have hfl:=Afq xs i hil
  have hsz:xs.flatten.length=arr.toList.length:=by
   have:=R.keys (.h 0)
   grind [AQ,upd,this.length]
  have hak:((xs.take i).flatten).length=i*k:=by
   grind [EF,Qd4,List.length_take]
  have hxk:xs[i].length=k:=hk _ (List.getElem_mem hil)
  have hsz2:i*k+k≤arr.toList.length:=by
   grind
  have harr:arr.toList=arr.toList.take (i*k)++(arr.toList.drop (i*k)).take k++arr.toList.drop (i*k+k):=by
   grind [Qc4,Qb2,Qb9]
  have T1:=T.rel;rw[hfl,harr]at T1
  obtain⟨fp2,R2⟩:=T1.hop zg zg
   (by
    grind)
  rw[←WW xs i hil]at R2
  have hvl:(vcells s (Act.eval ⟨tm,ds⟩ x)).length=k:=by grind [T.len]
  have hset:VS.setCells arr.toList (i*k) (vcells s (Act.eval ⟨tm,ds⟩ x))=arr.toList.take (i*k)++vcells s (Act.eval ⟨tm,ds⟩ x)++arr.toList.drop (i*k+k):=by
   grind [Tc,vcells,Act.eval]
  have hfold:(((Act.eval ⟨tm,ds⟩ x).cells.zipIdx.foldl (fun cs (c,j)=>cs.setIfInBounds (i*k+j) c) arr)).toList=VS.setCells arr.toList (i*k) (vcells s (Act.eval ⟨tm,ds⟩ x)):=by
   rw[←Array.foldl_toList,Qe6,T.cells];simp[QR]
  rw[←hset,←hfold]at R2
  obtain⟨arr',fp',ha',R3,F3,hk3,hl3⟩:=AdA ps l' _ xs' _ st1 st' _ hl' h R2 T.refs (by
   grind) zg
  refine⟨arr',fp',?_,R3,F3,hk3,hl3⟩;simp only[List.map_cons,Instr.fill]
  have hvs:(Act.eval ⟨tm,ds⟩ x).cells.size=k:=by grind [T.cells]
  rw[if_neg (by rw[hvs];simp only[Array.length_toList]at hsz2;simp;omega)]<;>grind
theorem Rel.Adn{xs:List (List AV)}{vs:List Value}{w':World}{v:Value}{k:Nat}(R:Ax E lam z fp (upd Ao 0 (xs.flatten,vs)) st tm w)
  (hm:Moves (·∈fp (.h 0)) w w') {f:List Nat} (hv:RV (ctx E lam z st.hp.next) w' (.sl .own k xs) v f) (hn:f.Nodup) (hf:∀b,b∈f→b∈fp (.h 0)∨(w.heap.size≤b∧b<w'.heap.size))
  (hF:Refs st tm w' lam) {d:Nat} (hd:d<E.nt):Rel E (st.set d (V (.sl .own k xs))) (tm.setIfInBounds d v) w':=by
 have R1:=R.turn 0 hm (l:=[.sl .own k xs]) (m:=[v]) (RVs.one hv) hn hf;rw[H8]at R1;have R2:=R1.PR 0 d (V (.sl .own k xs)) v hd ⟨fun _=>by trivial,fun h=>nomatch h⟩ (if(st.sl d).CI then upd st.vs d (st.vs d+1)else st.vs) st.hv;rw[H8,Eu]at R2;refine⟨lam,z,_,R2,hF.set (by grind [R.tsz]) ?_⟩;intro j a u hj hu
 cases j with
 |zero=>simp[SV.cells]at hj;subst hj;trivial
 |succ j=>trivial
theorem AjC(R:Ax E lam z fp Ao st tm w)(F:Refs st tm w lam){o:Oper}{t e:TypeId}{len k:Nat}{ps:Array (Nat×Operand)}{l:List (Nat×Opd)}{zs:List Value}{d:Nat}(ho:o.op=.buildSlice t len ps)
  (ht:E.P.underlying t=some (.slice e)) (hk:sizeOf? E.P e=some k) (hz:zeroOf? E.P e=some zs) (hzk:zs.length=k∧0<k∧len*k≤2^24) (hl:PB E.P len ps.toList=some l) (hdst:o.dst=some d) (hd:d<E.nt) {st':St}
  (h:(st.Ja o.dst (.buildSl k zs len l)).holds (·=st')):OpW E tm ds w o st':=by
 simp only[St.Ja,hdst,M.Aa]at h;rw[M.Aw]at h;obtain⟨⟨xs,st1⟩,h1,h⟩:=h;rw[M.Ae]at h;subst h;obtain⟨i,zv,hi,hiz,hzl,hza⟩:=M1 hz;simp only[sizeOf?,hi,Qa4,Qa0]at hk
 have hsz:zv.cells.size=k:=zg
 have hmc:(madeCells zv.cells (len*k)).toList=(Qa3 len zs).flatten:=by
  grind [SA]
 obtain⟨fp0,R0⟩:=R.lits (Qa3 len zs).flatten (Ii _ _ hza _);rw[←H4,←hmc]at R0;obtain⟨arr',fp',ha',R1,F1,hk1,hl1⟩:=AdA (ds:=ds) ps.toList l _ xs _ st st1 fp0 hl h1 R0 F (fun x hx=>zg) zsz;have hkx:=R1.keys (.h 0);simp only[AQ,upd,if_true]at hkx
 have hasz:arr'.toList.length=xs.length*k:=by grind [hkx.length,EF]
 have hrun:(execOp (Act.eval ⟨tm,ds⟩) o).run E.P w=.ok (.value (.slice (some ⟨w.heap.size,0,none⟩) len len)) (w.alloc (.cells arr' e)):=by
  have e1:(ps.map fun(i,x)=>(i,Act.eval ⟨tm,ds⟩ x)).toList=ps.toList.map fun(p:Nat×Operand)=>(p.1,Act.eval ⟨tm,ds⟩ p.2):=by simp_all
  have hno:¬(len*k>2^24):=zm
  by_cases h0:len*k=0
  ·have hmz:madeCells zv.cells (len*k)=(Array.range (len*k)).map (fun j=>(#[]:Array Value)[j%(#[]:Array Value).size]!):=by grind [madeCells]
   rw[hmz]at ha'
   simp[execOp,ho,Instr.buildSlice,run_underlying ht,sizeOf,typeInfo,hi,hk,h0,newRow]<;>simp_all
  ·simp only[madeCells]at ha';simp only[execOp,ho,Instr.buildSlice,run_underlying ht,sizeOf,typeInfo,hi,hk,zeroValue,hiz,newRow,Sem.run_bind,Sem.run_pure,Result.andThen_ok,if_neg hno,if_neg h0];simp[e1,ha',zeroValue,typeInfo,hi,hiz,hk,hno,h0]
 refine⟨_,_,hrun,.inl ⟨_,rfl,?_⟩⟩;rw[hdst];have hfr:=hkx.frame (w':=w.alloc (.cells arr' e)) (Ctx.Le.refl _) (fun b hb=>heap_alloc_old w _ (R1.AgP hb)) (fun b hb=>heap_alloc_old w _ (R1.fps.ok _ b hb).1)
 have hcells:((arr'.toList.drop 0).take (xs.length*k))=arr'.toList:=zg
 have hv:=RV.own (C:=ctx E lam z st1.hp.next) (w:=w.alloc (.cells arr' e)) k xs w.heap.size 0 len arr' e _ (heap_alloc_new w _) zg zm
  (by have:len≤len*k:=(Nat.le_mul_of_pos_right _ hzk.2.1);grind [maxLen]) hk1 (by rw[hcells];omega)
 rw[hl1]at hv;refine Rel.Adn R1 (Moves.alloc _ _ _) hv ?_ ?_ (F1.grow R1 (Moves.alloc _ _ _)) hd
 ·rw[List.nodup_cons];exact⟨fun hm=>by have:=(R1.fps.ok _ _ hm).1;omega,R1.fps.nod _⟩
 simp_all
end
end Go.VS
