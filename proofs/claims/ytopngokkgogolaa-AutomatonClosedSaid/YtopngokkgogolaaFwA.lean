/- A semantics of values for the model, shown sound for it, and the lifting of functions to plain propositions: part 1. -/
import Derived.ChangeKeysEq
import Derived.Lib.ItoaNum
import Derived.Lib.LaidTab
import Derived.Orders
import Derived.Tactics
import Derived.WalkKit
set_option linter.unusedVariables false
set_option linter.unusedSimpArgs false
set_option linter.unusedSectionVars false
namespace Go.VS
structure Pg extends Program where
 kp:Value→Prop
instance:Coe Pg Program:=⟨Pg.toProgram⟩
def Pg.of(p:Program):Pg:=⟨p,fun _=>False⟩
inductive Tag|own|imm|brw
 deriving DecidableEq
inductive Root
 |slot (t j:Nat)
 |obj (o c:Nat)
 deriving DecidableEq
structure Stp where
 i:Nat
 k:Nat
 c:Nat
 deriving DecidableEq
structure Place where
 root:Root
 path:List Stp
 deriving DecidableEq
inductive AV
 |lit (v:Value)
 |sl (τ:Tag) (k:Nat) (xs:List (List AV))
 |ptr (o c:Nat)
 |ref (p:Place) (ver k lo n:Nat)
 |adr (p:Place) (ver k i c:Nat)
 |iadr (k:Nat) (xs:List (List AV)) (i c:Nat)
 |clo (f:String×Bool) (caps:List AV)
 |dead
 deriving Inhabited
inductive SV
 |one (a:AV)
 |agg (l:List AV)
 deriving Inhabited
def SV.cells:SV→List AV
 |.one a=>[a]
 |.agg l=>l
inductive TV
 |val (g:Bool) (s:SV)
 |tup (l:List SV)
 |dead
abbrev AV.int(n:Int):AV:=.lit (.int .i64 n)
abbrev AV.bool(b:Bool):AV:=.lit (.bool b)
abbrev AV.nil:AV:=.lit (.slice none 0 0)
abbrev V(a:AV):TV:=.val true (.one a)
abbrev A(l:List AV):TV:=.val true (.agg l)
structure Heap where
 get:Nat→Option (List AV)
 next:Nat
def upd{α:Type}(f:Nat→α)(t:Nat)(x:α):Nat→α:=fun t'=>if t'=t then x else f t'
def Heap.alloc(h:Heap)(cells:List AV):Heap:=⟨upd h.get h.next (some cells),h.next+1⟩
def Heap.set(h:Heap)(o:Nat)(cells:List AV):Heap:=⟨upd h.get o (some cells),h.next⟩
def Heap.empty:Heap:=⟨fun _=>none,0⟩
structure St where
 sl:Nat→TV
 hp:Heap
 vs:Nat→Nat
 hv:Nat
def AV.Br:AV→Bool
 |.sl .own _ _=>true
 |_=>false
def SV.BV(s:SV):Bool:=s.cells.any AV.Br
def TV.BV:TV→Bool
 |.val _ s=>s.BV
 |.tup l=>l.any SV.BV
 |.dead=>false
mutual
def AV.lend:AV→AV
 |.sl .own k xs=>.sl .brw k (Gq xs)
 |a=>a
def K6:List AV→List AV
 |[]=>[]
 |a::l=>a.lend::K6 l
def Gq:List (List AV)→List (List AV)
 |[]=>[]
 |l::ls=>K6 l::Gq ls
end
mutual
def AV.frz:AV→AV
 |.sl .own k xs=>.sl .imm k (Iu xs)
 |a=>a
def NC:List AV→List AV
 |[]=>[]
 |a::l=>a.frz::NC l
def Iu:List (List AV)→List (List AV)
 |[]=>[]
 |l::ls=>NC l::Iu ls
end
theorem Rk(l:List AV):K6 l=l.map AV.lend:=by induction l<;>simp[K6, *]
theorem Jc(l:List (List AV)):Gq l=l.map (List.map AV.lend):=by induction l<;>simp[Gq,Rk, *]
theorem KT(l:List AV):NC l=l.map AV.frz:=by induction l<;>simp[NC, *]
theorem KR(l:List (List AV)):Iu l=l.map (List.map AV.frz):=by induction l<;>simp[Iu,KT, *]
mutual
def AV.free:AV→Bool
 |.lit _=>true
 |.sl .brw _ _=>false
 |.sl _ _ xs=>EE xs
 |.ptr _ _=>true
 |.clo _ caps=>BJ caps
 |_=>false
def BJ:List AV→Bool
 |[]=>true
 |a::l=>a.free&&BJ l
def EE:List (List AV)→Bool
 |[]=>true
 |l::ls=>BJ l&&EE ls
end
theorem Nz(l:List AV):BJ l=l.all AV.free:=by induction l<;>simp[BJ, *]
theorem L6(l:List (List AV)):EE l=l.all (fun l=>l.all AV.free):=by induction l<;>simp[EE,Nz, *]
def AV.at:AV→List Stp→Option AV
 |a,[]=>some a
 |.sl .own k xs,s::r=>if s.k=k then((xs[s.i]?).bind (·[s.c]?)).bind (·.at r)else none
 |_,_=>none
def AV.put:AV→List Stp→AV→AV
 |_,[],b=>b
 |.sl .own k xs,s::r,b=>if s.k=k then .sl .own k (xs.modify s.i (·.modify s.c (·.put r b)))else .sl .own k xs
 |a,_,_=>a
def TV.cell:TV→Nat→Option AV
 |.val true s,j=>s.cells[j]?
 |_,_=>none
def SV.setCell:SV→Nat→AV→SV
 |.one _,0,b=>.one b
 |.one a,_,_=>.one a
 |.agg l,j,b=>.agg (l.set j b)
def TV.setCell:TV→Nat→AV→TV
 |.val g s,j,b=>.val g (s.setCell j b)
 |t,_,_=>t
def St.root(st:St):Root→Option AV
 |.slot t j=>(st.sl t).cell j
 |.obj o c=>(st.hp.get o).bind (·[c]?)
def St.at(st:St)(p:Place):Option AV:=(st.root p.root).bind (·.at p.path)
def St.ver(st:St):Root→Nat
 |.slot t _=>st.vs t
 |.obj _ _=>st.hv
def St.Ar(st:St):Root→AV→St
 |.slot t j,b=>⟨upd st.sl t ((st.sl t).setCell j b),st.hp,st.vs,st.hv⟩
 |.obj o c,b=>match st.hp.get o with
  |some l=>⟨st.sl,st.hp.set o (l.set c b),st.vs,st.hv⟩
  |none=>st
def St.putAt(st:St)(p:Place)(b:AV):St:=
 match st.root p.root with
 |some a=>st.Ar p.root (a.put p.path b)
 |none=>st
def St.bump(st:St):Root→St
 |.slot t _=>⟨st.sl,st.hp,upd st.vs t (st.vs t+1),st.hv⟩
 |.obj _ _=>⟨st.sl,st.hp,st.vs,st.hv+1⟩
def St.set(st:St)(t:Nat)(x:TV):St:=
 ⟨upd st.sl t x,st.hp,if(st.sl t).BV then upd st.vs t (st.vs t+1)else st.vs,st.hv⟩
end Go.VS
namespace Go.VS
def M(α:Type):Type:=Option (Prop×α)
namespace M
def pure{α:Type}(a:α):M α:=some (True,a)
def need(p:Prop):M Unit:=some (p,())
def fail{α:Type}:M α:=none
def bind{α β:Type}(x:M α)(f:α→M β):M β:=
 match x with
 |none=>none
 |some (p,a)=>match f a with
  |none=>none
  |some (q,b)=>some (p∧q,b)
instance:Monad M where
 pure:=M.pure
 bind:=M.bind
def holds{α:Type}(x:M α)(K:α→Prop):Prop:=
 match x with
 |none=>False
 |some (p,a)=>p∧K a
theorem Aa{α β:Type}(x:M α)(f:α→M β)(K:β→Prop):(x>>=f).holds K=x.holds fun a=>(f a).holds K:=by
 show(M.bind x f).holds K=_
 match x with
 |none=>rfl
 |some (p,a)=>
  show(M.bind (some (p,a)) f).holds K=(p∧(f a).holds K)
  unfold M.bind
  dsimp only
  cases h:f a with
  |none=>simp[holds]
  |some y=>obtain⟨q,b⟩:=y;simp[holds,and_assoc]
theorem Ad{α:Type}(a:α)(K:α→Prop):(Pure.pure a:M α).holds K=K a:=by
 show(True∧K a)=K a
 simp
theorem Aj(p:Prop)(K:Unit→Prop):(need p).holds K=(p∧K ()):=rfl
theorem Aw{α:Type}(x:M α)(K:α→Prop):x.holds K↔∃a,x.holds (·=a)∧K a:=by
 match x with
 |none=>simp[holds]
 |some (p,a)=>exact⟨fun h=>⟨a,⟨h.1,rfl⟩,h.2⟩,fun⟨b,⟨h1,h2⟩,h3⟩=>⟨h1,by subst h2;exact h3⟩⟩
theorem Ag{α:Type}{x:M α}{K K':α→Prop}(h:x.holds K)(hk:∀a,K a→K' a):x.holds K':=by
 match x,h with
 |some (p,a),h=>exact⟨h.1,hk _ h.2⟩
end M
inductive Opd
 |t (n:Nat)
 |c (v:Value)
 |f (name:String)
 deriving Inhabited
inductive Cv
 |toInt (k:IntKind)
 |ident
 |ofInt
 |bytesToStr
 |strToBytes
 deriving DecidableEq
inductive CK|int|str|bool
 deriving DecidableEq
inductive AOp
 |mv (x:Opd)
 |asg (x:Opd)
 |pick (c a b:Opd)
 |alloc (zero:List Value)
 |box (x:Opd)
 |build (zero:List Value) (parts:List (Nat×Nat×Opd))
 |buildSl (k:Nat) (zero:List Value) (len:Nat) (parts:List (Nat×Opd))
 |load (agg:Bool) (n:Nat) (x:Opd)
 |store (n:Nat) (a x:Opd)
 |nilc (x:Opd)
 |bin (op:BinOp) (x y:Opd)
 |eqA (ne:Bool) (ks:List CK) (x y:Opd)
 |eqB (ne:Bool) (x y:Opd)
 |un (op:UnOp) (x:Opd)
 |conv (c:Cv) (x:Opd)
 |mkSl (k bytes:Nat) (zero:List Value) (l c:Opd)
 |slS (x:Opd) (lo hi:Option Opd)
 |slK (k:Nat) (x:Opd) (lo hi:Option Opd)
 |fAddr (off:Nat) (x:Opd)
 |fld (agg:Bool) (off n:Nat) (x:Opd)
 |ixA (k:Nat) (x i:Opd)
 |ixAr (n k:Nat) (x i:Opd)
 |ixS (x i:Opd)
 |ixV (agg:Bool) (n k:Nat) (x i:Opd)
 |lenK (x:Opd)
 |lenS (x:Opd)
 |lenC (n:Nat)
 |app (k bytes:Nat) (s x:Opd)
 |mm (mx:Bool) (x y:Opd)
 |ext (x:Opd) (i:Nat)
 |mkf (f:String×Bool) (caps:List Opd)
 |call (f:String) (xs:List Opd)
 |callv (f:Opd) (xs:List Opd)
 |mkI (t:TypeId) (x:Opd)
 |panic (x:Opd)
 deriving Inhabited
structure GOp where
 dst:Option Nat
 op:AOp
 guard:Option (Nat×Bool):=none
 deriving Inhabited
def Ec(mk:Nat→Nat→Nat→AV):Nat→List AV→List AV
 |_,[]=>[]
 |j,a::l=>(match a with|.sl .own k xs=>mk j k xs.length|a=>a)::Ec mk (j+1) l
def NY:AV→AV
 |.ref ..=>.dead
 |.adr ..=>.dead
 |a=>a
def Ei(mk:Nat→Nat→Nat→AV):Nat→List AV→List AV
 |_,[]=>[]
 |j,a::l=>(match a with|.sl .own k xs=>mk j k xs.length|a=>NY a)::Ei mk (j+1) l
def St.peek(st:St)(n:Nat):SV→SV
 |.one a=>.one (match a with|.sl .own k xs=>(.ref ⟨.slot n 0,[]⟩ (st.vs n) k 0 xs.length)|a=>a)
 |.agg l=>.agg (Ec (fun j k len=>.ref ⟨.slot n j,[]⟩ (st.vs n) k 0 len) 0 l)
def St.use(st:St)(g:Bool):Opd→M SV
 |.c v=>pure (.one (.lit v))
 |.f nm=>pure (.one (.clo (nm,false) []))
 |.t n=>match st.sl n with
  |.val b s=>do M.need (g=true→b=true);pure (st.peek n s)
  |_=>M.fail
def St.EX(st:St)(g:Bool)(x:Opd):M Int:=do
 match←st.use g x with
 |.one (.lit (.int _ n))=>pure n
 |_=>M.fail
def St.Fm(st:St)(g:Bool)(x:Opd):M Bool:=do
 match←st.use g x with
 |.one (.lit (.bool b))=>pure b
 |_=>M.fail
def St.BX(st:St)(g:Bool)(x:Opd):M AV:=do
 match←st.use g x with
 |.one a=>pure a
 |_=>M.fail
def OO(agg:Bool)(l:List AV):SV:=if agg then .agg l else .one (l.headD .dead)
def sub(l:List AV)(c n k:Nat):List AV:=if c=0∧n=k then l else(l.drop c).take n
def window{α:Type}(lo n:Nat)(xs:List α):List α:=if lo=0∧n=xs.length then xs else(xs.drop lo).take n
def setCells{α:Type}(l:List α)(c:Nat):List α→List α
 |[]=>l
 |a::as=>setCells (l.set c a) (c+1) as
def QO(op:BinOp):Value→Value→Bool→Option (Prop×Value)
 |.int k a,.int k' b,g=>
  match op with
  |.add=>if k=k' then some (True,.int k (k.wrap (a+b)))else none
  |.sub=>if k=k' then some (True,.int k (k.wrap (a -b)))else none
  |.mul=>if k=k' then some (True,.int k (k.wrap (a*b)))else none
  |.quo=>if k=k' then some (g=true→b≠0,.int k (k.wrap (a.tdiv b)))else none
  |.rem=>if k=k' then some (g=true→b≠0,.int k (a.tmod b))else none
  |.and=>if k=k' then some (True,.int k (k.wrap (BitVec.ofInt k.bits a&&&BitVec.ofInt k.bits b).toNat))else none
  |.or=>if k=k' then some (True,.int k (k.wrap (BitVec.ofInt k.bits a|||BitVec.ofInt k.bits b).toNat))else none
  |.xor=>if k=k' then some (True,.int k (k.wrap (BitVec.ofInt k.bits a^^^BitVec.ofInt k.bits b).toNat))else none
  |.andNot=>if k=k' then some (True,.int k (k.wrap (BitVec.ofInt k.bits a&&&~~~BitVec.ofInt k.bits b).toNat))else none
  |.eql=>if k=k' then some (True,.bool (a==b))else none
  |.neq=>if k=k' then some (True,.bool (a !=b))else none
  |.lss=>if k=k' then some (True,.bool (a<b))else none
  |.leq=>if k=k' then some (True,.bool (a≤b))else none
  |.gtr=>if k=k' then some (True,.bool (a>b))else none
  |.geq=>if k=k' then some (True,.bool (a≥b))else none
  |.shl=>some (g=true→0≤b,.int k (k.wrap (a*2^(min b.toNat k.bits))))
  |.shr=>some (g=true→0≤b,.int k (a.fdiv (2^(min b.toNat k.bits))))
 |.string a,.string b,g=>
  match op with
  |.add=>some (g=true→a.size+b.size≤9223372036854775807,.string ⟨a.data++b.data⟩)
  |.eql=>some (True,.bool (a.data.toList==b.data.toList))
  |.neq=>some (True,.bool (!(a.data.toList==b.data.toList)))
  |.lss=>some (True,.bool (Op.bytesLess a.data.toList b.data.toList))
  |.leq=>some (True,.bool (Op.bytesLess a.data.toList b.data.toList||a.data.toList==b.data.toList))
  |.gtr=>some (True,.bool (!(Op.bytesLess a.data.toList b.data.toList||a.data.toList==b.data.toList)))
  |.geq=>some (True,.bool (!(Op.bytesLess a.data.toList b.data.toList)))
  |_=>none
 |_,_,_=>none
def JS:CK→AV→AV→Option Bool
 |.int,.lit (.int k a),.lit (.int k' b)=>if k=k' then some (a==b)else none
 |.str,.lit (.string a),.lit (.string b)=>some (a.data.toList==b.data.toList)
 |.bool,.lit (.bool a),.lit (.bool b)=>some (a==b)
 |_,_,_=>none
def BF:List CK→List AV→List AV→Option Bool
 |[],[],[]=>some true
 |k::ks,a::l,b::m=>match JS k a b,BF ks l m with
  |some x,some y=>some (x&&y)
  |_,_=>none
 |_,_,_=>none
def unV(op:UnOp):Value→Option Value
 |.int k n=>match op with
  |.neg=>some (.int k (k.wrap (0 -n)))
  |.xor=>some (.int k (k.wrap (BitVec.ofInt k.bits (if k.signed then-1 else k.max)^^^BitVec.ofInt k.bits n).toNat))
  |_=>none
 |.bool b=>match op with
  |.not=>some (.bool !b)
  |_=>none
 |_=>none
def M.ofOption{α:Type}:Option (Prop×α)→M α:=fun x=>x
def M.Cz{α:Type}:Option α→M α
 |some a=>pure a
 |none=>M.fail
theorem M.Ca{α:Type}{x:Option α}{K:α→Prop}:(M.Cz x).holds K↔∃a,x=some a∧K a:=by
 cases x with
 |none=>exact⟨fun h=>h.elim,fun⟨_,h,_⟩=>nomatch h⟩
 |some a=>exact⟨fun h=>⟨a,rfl,h.2⟩,fun⟨_,h,k⟩=>by cases h;exact⟨trivial,k⟩⟩
theorem M.Iy{α:Type}{x:Option (Prop×α)}{K:α→Prop}:(M.ofOption x).holds K↔∃p a,x=some (p,a)∧p∧K a:=by
 cases x with
 |none=>exact⟨fun h=>h.elim,fun⟨_,_,h,_⟩=>nomatch h⟩
 |some a=>exact⟨fun h=>⟨a.1,a.2,rfl,h.1,h.2⟩,fun⟨_,_,h,k⟩=>by cases h;exact k⟩
def FW(st:St)(g:Bool)(cells:List AV):List (Nat×Nat×Opd)→M (List AV)
 |[]=>pure cells
 |(off,n,x)::r=>do
  let s←st.use g x
  if s.cells.length=n then
   FW st g (setCells cells off s.cells) r
  else M.fail
def Ii(st:St)(g:Bool):List Opd→M (List AV)
 |[]=>pure []
 |x::r=>do
  let a←st.BX g x
  let l←Ii st g r
  pure (a::l)
def strOf(l:List Int):List UInt8:=l.map fun n=>UInt8.ofNat n.toNat
def bytesOf:List (List AV)→Option (List Int)
 |[]=>some []
 |[.lit (.int .u8 n)]::r=>(bytesOf r).map (n::·)
 |_=>none
def St.whole(st:St):AV→M (List (List AV))
 |.ref p v k lo n=>match st.at p with
  |some (.sl .own k' xs)=>do
   M.need (v=st.ver p.root)
   M.need (k'=k)
   M.need (k=1)
   M.need (lo+n≤xs.length)
   pure (window lo n xs)
  |_=>M.fail
 |.sl _ k xs=>do
  M.need (k=1)
  pure xs
 |.lit (.slice none 0 0)=>pure []
 |_=>M.fail
def Xw:AV→M Int
 |.ref _ _ _ _ n=>pure n
 |.sl _ _ xs=>pure xs.length
 |.lit (.slice none 0 0)=>pure 0
 |_=>M.fail
def V5(st:St)(g:Bool)(len:Nat):Option Opd→M Nat
 |none=>pure len
 |some x=>do
  let h←st.EX g x
  M.need (g=true→0≤h∧h≤len)
  pure h.toNat
def UL(st:St)(g:Bool)(h:Nat):Option Opd→M Nat
 |none=>pure 0
 |some x=>do
  let l←st.EX g x
  M.need (g=true→0≤l∧l≤h)
  pure l.toNat
def Ft(st:St)(g:Bool)(len:Nat)(lo hi:Option Opd):M (Nat×Nat):=do
 let h←V5 st g len hi
 let l←UL st g h lo
 pure (l,h)
def St.A5(st:St)(g:Bool):AOp→M SV
 |.mv x=>st.use g x
 |.pick c a b=>do
  let c←st.Fm g c
  let a←st.Fm (g&&c) a
  let b←st.Fm (g&&!c) b
  pure (.one (.bool (bif c then a else b)))
 |.build zero parts=>do
  let l←FW st g (zero.map .lit) parts
  pure (.agg l)
 |.load agg n x=>do
  match←st.BX g x with
  |.ptr o c=>match st.hp.get o with
   |some l=>do
    M.need (c+n≤l.length)
    pure (OO agg (Ei (fun j k len=>.ref ⟨.obj o (c+j),[]⟩ st.hv k 0 len) 0 (sub l c n l.length)))
   |none=>M.fail
  |.adr p v k i c=>match st.at p with
   |some (.sl .own k' xs)=>do
    M.need (v=st.ver p.root)
    M.need (k'=k)
    M.need (g=true→i<xs.length)
    M.need (c+n≤k)
    pure (OO agg (Ei (fun j k' len=>.ref ⟨p.root,p.path++[⟨i,k,c+j⟩]⟩ v k' 0 len) 0 (sub (xs.getD i []) c n k)))
   |_=>M.fail
  |.iadr k xs i c=>do
   M.need (g=true→i<xs.length)
   M.need (c+n≤k)
   pure (OO agg ((sub (xs.getD i []) c n k).map NY))
  |_=>M.fail
 |.nilc x=>do
  match←st.BX g x with
  |.ptr o c=>pure (.one (.ptr o c))
  |.adr p v k i c=>pure (.one (.adr p v k i c))
  |.iadr k xs i c=>pure (.one (.iadr k xs i c))
  |.clo f caps=>pure (.one (.clo f caps))
  |_=>M.fail
 |.bin op x y=>do
  match←st.use g x,←st.use g y with
  |.one (.lit a),.one (.lit b)=>do
   let v←M.ofOption (QO op a b g)
   pure (.one (.lit v))
  |_,_=>M.fail
 |.eqB ne x y=>do
  let a←st.Fm g x
  let b←st.Fm g y
  pure (.one (.bool (if ne then !(a==b)else(a==b))))
 |.eqA ne ks x y=>do
  match←st.use g x,←st.use g y with
  |.agg l,.agg m=>do
   let b←M.Cz (BF ks l m)
   pure (.one (.bool (if ne then !b else b)))
  |_,_=>M.fail
 |.un op x=>do
  match←st.BX g x with
  |.lit a=>do
   let v←M.Cz (unV op a)
   pure (.one (.lit v))
  |_=>M.fail
 |.conv c x=>do
  match c,←st.BX g x with
  |.toInt k,.lit (.int _ n)=>pure (.one (.lit (.int k (k.wrap n))))
  |.ident,.lit (.string b)=>pure (.one (.lit (.string b)))
  |.ofInt,.lit (.int _ n)=>pure (.one (.lit (.string (Utf8.encode n))))
  |.bytesToStr,a=>do
   let ys←st.whole a
   let l←M.Cz (bytesOf ys)
   pure (.one (.lit (.string ⟨(strOf l).toArray⟩)))
  |_,_=>M.fail
 |.mkSl k bytes zero l c=>do
  let l←st.EX g l
  let c←st.EX g c
  M.need (g=true→0≤l∧l≤c∧bytes*c≤281474976710656)
  M.need (g=true→c≤9223372036854775807)
  M.need (g=true)
  pure (.one (.sl .own k (List.replicate l.toNat (zero.map .lit))))
 |.slS x lo hi=>do
  match←st.BX g x with
  |.lit (.string s)=>do
   let(l,h)←Ft st g s.size lo hi
   pure (.one (.lit (.string (s.extract l h))))
  |_=>M.fail
 |.slK k x lo hi=>do
  match←st.BX g x with
  |.ref p v k' lo0 n=>match st.at p with
   |some (.sl .own _ _)=>do
    M.need (v=st.ver p.root)
    M.need (k'=k)
    let(l,h)←Ft st g n lo hi
    pure (.one (.ref p v k (lo0+l) (h -l)))
   |_=>M.fail
  |.sl τ k' xs=>do
   M.need (k'=k)
   M.need (τ≠.own)
   let(l,h)←Ft st g xs.length lo hi
   pure (.one (.sl τ k (window l (h -l) xs)))
  |.lit (.slice none 0 0)=>do
   let _←Ft st g 0 lo hi
   pure (.one (.lit (.slice none 0 0)))
  |_=>M.fail
 |.fAddr off x=>do
  match←st.BX g x with
  |.ptr o c=>pure (.one (.ptr o (c+off)))
  |.adr p v k i c=>pure (.one (.adr p v k i (c+off)))
  |.iadr k xs i c=>pure (.one (.iadr k xs i (c+off)))
  |_=>M.fail
 |.fld agg off n x=>do
  match←st.use g x with
  |.agg l=>do
   M.need (off+n≤l.length)
   pure (OO agg (sub l off n l.length))
  |_=>M.fail
 |.ixA k x i=>do
  let i←st.EX g i
  match←st.BX g x with
  |.ref p v k' lo n=>match st.at p with
   |some (.sl .own _ _)=>do
    M.need (v=st.ver p.root)
    M.need (k'=k)
    M.need (g=true→0≤i∧i<n)
    pure (.one (.adr p v k (lo+i.toNat) 0))
   |_=>M.fail
  |.sl τ k' xs=>do
   M.need (k'=k)
   M.need (τ≠.own)
   M.need (g=true→0≤i∧i<xs.length)
   pure (.one (.iadr k xs i.toNat 0))
  |_=>M.fail
 |.ixAr n k x i=>do
  let i←st.EX g i
  M.need (g=true→0≤i∧i<n)
  match←st.BX g x with
  |.ptr o c=>pure (.one (.ptr o (c+i.toNat*k)))
  |.adr p v k' j c=>pure (.one (.adr p v k' j (c+i.toNat*k)))
  |.iadr k' xs j c=>pure (.one (.iadr k' xs j (c+i.toNat*k)))
  |_=>M.fail
 |.ixS x i=>do
  let i←st.EX g i
  match←st.BX g x with
  |.lit (.string s)=>do
   M.need (g=true→0≤i∧i<s.size)
   pure (.one (.lit (.int .u8 (s.data.toList.getD i.toNat 0).toNat)))
  |_=>M.fail
 |.ixV agg n k x i=>do
  let i←st.EX g i
  match←st.use g x with
  |.agg l=>do
   M.need (g=true→0≤i∧i<n)
   M.need (n*k≤l.length)
   pure (OO agg (sub l (i.toNat*k) k l.length))
  |_=>M.fail
 |.lenK x=>do
  let n←Xw (←st.BX g x)
  pure (.one (.int n))
 |.lenS x=>do
  match←st.BX g x with
  |.lit (.string s)=>pure (.one (.int s.size))
  |_=>M.fail
 |.lenC n=>pure (.one (.int n))
 |.mm mx x y=>do
  match←st.BX g x,←st.BX g y with
  |.lit (.int k a),.lit (.int _ b)=>pure (.one (.lit (.int k (if mx then(if b>a then b else a)else(if b<a then b else a)))))
  |_,_=>M.fail
 |.mkf f caps=>do
  let l←Ii st g caps
  M.need (l.all AV.free=true)
  pure (.one (.clo f l))
 |.mkI t x=>do
  match←st.BX g x with
  |.lit v=>pure (.one (.lit (.iface t v)))
  |_=>M.fail
 |_=>M.fail
def St.DR(v0:Root→Nat)(mem:Bool)(st:St):AV→M (AV×St×List Root)
 |.ref p v k lo n=>match st.at p with
  |some (.sl .own k' xs)=>do
   M.need (v=v0 p.root)
   M.need (k'=k)
   M.need (lo+n≤xs.length)
   pure (.sl .own k (window lo n xs),st.putAt p .dead,[p.root])
  |_=>M.fail
 |.adr p v k i c=>if mem then M.fail else pure (.adr p v k i c,st,[])
 |.iadr k xs i c=>if mem then M.fail else pure (.iadr k xs i c,st,[])
 |.dead=>M.fail
 |.sl .own _ _=>M.fail
 |a=>pure (a,st,[])
def St.B5(v0:Root→Nat)(mem:Bool)(st:St):List AV→M (List AV×St×List Root)
 |[]=>pure ([],st,[])
 |a::l=>do
  let(b,st1,rs)←st.DR v0 mem a
  let(m,st2,rs')←st1.B5 v0 mem l
  pure (b::m,st2,rs++rs')
def St.bumps(st:St):List Root→St
 |[]=>st
 |r::rs=>(st.bump r).bumps rs
def SV.with(s:SV)(l:List AV):SV:=
 match s with
 |.one _=>.one (l.headD .dead)
 |.agg _=>.agg l
def St.take(st:St)(mem:Bool)(x:Opd):M (SV×St):=do
 let s←st.use true x
 let(l,st1,rs)←st.B5 st.ver mem s.cells
 pure (s.with l,st1.bumps rs)
def DY(st:St)(k:Nat)(cells:List (List AV)):List (Nat×Opd)→M (List (List AV)×St)
 |[]=>pure (cells,st)
 |(i,x)::r=>do
  let(s,st1)←st.take true x
  if s.cells.length=k then
   DY st1 k (cells.set i s.cells) r
  else M.fail
def St.source(st:St)(k:Nat):Opd→M (List (List AV)×St)
 |.c (.slice none 0 0)=>pure ([],st)
 |.t m=>match st.sl m with
  |.val b (.one (.sl .own k' ys))=>do
   M.need (b=true)
   M.need (k'=k)
   pure (ys,st.set m .dead)
  |.val b (.one (.sl _ k' ys))=>do
   M.need (b=true)
   M.need (k'=k)
   pure (ys,st)
  |.val b (.one (.lit (.slice none 0 0)))=>do
   M.need (b=true)
   pure ([],st)
  |.val b (.one (.ref p v k'' lo n))=>match st.at p with
   |some (.sl .own k' ys)=>do
    M.need (b=true)
    M.need (k''=k)
    M.need (k'=k)
    M.need (v=st.ver p.root)
    M.need (lo+n≤ys.length)
    M.need (∀l∈window lo n ys,l.any AV.Br=false)
    pure (window lo n ys,st)
   |_=>M.fail
  |_=>M.fail
 |_=>M.fail
def St.base(st:St)(k:Nat)(s:Opd):M (List (List AV)×St):=do
 let(s,st1)←st.take false s
 match s with
 |.one (.sl .own k' xs)=>do
  M.need (k'=k)
  pure (xs,st1)
 |.one (.lit (.slice none 0 0))=>pure ([],st1)
 |_=>M.fail
def AV.solid:AV→Bool
 |.ref ..=>false
 |.adr ..=>false
 |_=>true
def SV.husk:SV→SV
 |.one a=>.one (if a.Br then .dead else a)
 |.agg l=>.agg (l.map fun a=>if a.Br then .dead else a)
def St.Fv(st:St)(dst:Option Nat):AOp→M St
 |.asg x=>match dst with
  |some d=>do
   let(s,st1)←st.take false x
   pure (st1.set d (.val true s))
  |none=>M.fail
 |.alloc zero=>match dst with
  |some d=>pure (St.set ⟨st.sl,st.hp.alloc (zero.map .lit),st.vs,st.hv⟩ d (V (.ptr st.hp.next 0)))
  |none=>M.fail
 |.box x=>match dst with
  |some d=>do
   let(s,st1)←st.take true x
   pure (St.set ⟨st1.sl,st1.hp.alloc s.cells,st1.vs,st1.hv⟩ d (V (.ptr st1.hp.next 0)))
  |none=>M.fail
 |.buildSl k zero len parts=>match dst with
  |some d=>do
   let(xs,st1)←DY st k (List.replicate len (zero.map .lit)) parts
   pure (st1.set d (V (.sl .own k xs)))
  |none=>M.fail
 |.store n a x=>do
  let(s,st1)←st.take true x
  if s.cells.length=n then
   match←st1.BX true a with
   |.ptr o c=>match st1.hp.get o with
    |some l=>do
     M.need (c+n≤l.length)
     let st2:St:=⟨st1.sl,st1.hp.set o (setCells l c s.cells),st1.vs,st1.hv⟩
     pure (if((l.drop c).take n).any AV.Br then st2.bump (.obj o c)else st2)
    |none=>M.fail
   |.adr p v k' i c=>match st1.at p with
    |some (.sl .own k xs)=>do
     M.need (v=st1.ver p.root)
     M.need (k'=k)
     M.need (i<xs.length)
     M.need (c+n≤k)
     let st2:=st1.putAt p (.sl .own k (xs.set i (setCells (xs.getD i []) c s.cells)))
     pure (if(((xs.getD i []).drop c).take n).any AV.Br then st2.bump p.root else st2)
    |_=>M.fail
   |_=>M.fail
  else M.fail
 |.app k bytes s x=>match dst with
  |some d=>do
   let(ys,st1)←st.source k x
   let(xs,st2)←st1.base k s
   M.need ((xs.length+ys.length)*bytes≤140737488355328)
   M.need (xs.length+ys.length≤9223372036854775807)
   pure (st2.set d (V (.sl .own k (xs++ys))))
  |none=>M.fail
 |.ext x i=>match x,dst with
  |.t n,some d=>match st.sl n with
   |.tup l=>match l[i]?with
    |some s=>do
     M.need (s.cells.all AV.solid=true)
     pure ((st.set n (.tup (l.set i s.husk))).set d (.val true s))
    |none=>M.fail
   |_=>M.fail
  |_,_=>M.fail
 |_=>M.fail
def AOp.isW:AOp→Bool
 |.asg _|.alloc _|.box _|.buildSl ..|.store ..|.app ..|.ext ..|.panic _=>true
 |_=>false
def St.guard(st:St):Option (Nat×Bool)→M Bool
 |none=>pure true
 |some (t,want)=>match st.sl t with
  |.val b (.one (.lit (.bool c)))=>pure (b&&(c==want))
  |_=>M.fail
abbrev Vis:=Option (Nat→Bool)
def Vis.sees:Vis→Nat→Bool
 |none,_=>false
 |some v,o=>v o
def Root.hid(V:Vis):Root→Bool
 |.slot ..=>true
 |.obj o _=>!V.sees o
def St.Dy(st:St)(V:Vis):AV→M AV
 |.ref p v k lo n=>match st.at p with
  |some (.sl .own k' xs)=>do
   M.need (p.root.hid V=true)
   M.need (v=st.ver p.root)
   M.need (k'=k)
   M.need (lo+n≤xs.length)
   pure (.sl .brw k (Gq (window lo n xs)))
  |_=>M.fail
 |.sl .own k xs=>pure (.sl .imm k (Iu xs))
 |.adr ..=>M.fail
 |.iadr ..=>M.fail
 |.dead=>M.fail
 |a=>pure a
def St.EA(st:St)(V:Vis):List AV→M (List AV)
 |[]=>pure []
 |a::l=>do
  let b←st.Dy V a
  let m←st.EA V l
  pure (b::m)
def St.arg(st:St)(V:Vis)(g:Bool):Opd→M SV
 |.c v=>pure (.one (.lit v))
 |.f nm=>pure (.one (.clo (nm,false) []))
 |.t n=>match st.sl n with
  |.val b s=>do
   M.need (g=true→b=true)
   let l←st.EA V s.cells
   pure (s.with l)
  |_=>M.fail
def St.args(st:St)(V:Vis)(g:Bool):List Opd→M (List SV)
 |[]=>pure []
 |x::r=>do
  let a←st.arg V g x
  let l←st.args V g r
  pure (a::l)
def St.CT(st:St):Opd→St
 |.t n=>if(st.sl n).BV then
   st.set n (match st.sl n with
    |.val b (.one a)=>.val b (.one a.frz)
    |.val b (.agg l)=>.val b (.agg (l.map AV.frz))
    |x=>x)
  else st
 |_=>st
def St.EF(st:St):List Opd→St
 |[]=>st
 |x::r=>(st.CT x).EF r
end Go.VS
namespace Go.VS
structure Ctx where
 P:Program
 lam:Nat→Nat
 nx:Nat
 zt:Nat→Prop
 zb:Nat→Prop
structure Ctx.Le(C C':Ctx):Prop where
 P:C'.P=C.P
 lam:∀o,o<C.nx→C'.lam o=C.lam o
 nx:C.nx≤C'.nx
 zt:∀b,C.zt b→C'.zt b
 zb:∀b,C.zb b→C'.zb b
theorem Ctx.Le.refl(C:Ctx):C.Le C:=⟨rfl,fun _ _=>rfl,Nat.le_refl _,fun _ h=>h,fun _ h=>h⟩
mutual
inductive RV (C:Ctx) (w:World):AV→Value→List Nat→Prop
 |lit (v:Value) (h:v.oneCell'=true):RV C w (.lit v) v []
 |dead (v:Value) (h:v.oneCell'=true):RV C w .dead v []
 |ptr (o c:Nat) (h:o<C.nx):RV C w (.ptr o c) (.pointer (some ⟨C.lam o,c,none⟩)) []
 |ref (p:Place) (ver k lo n:Nat) (a:Option Addr) (cap:Nat):RV C w (.ref p ver k lo n) (.slice a n cap) []
 |adr (p:Place) (ver k i c:Nat) (a:Addr):RV C w (.adr p ver k i c) (.pointer (some a)) []
 |iadr (k:Nat) (xs:List (List AV)) (i c b off:Nat) (cs:Array Value) (e:TypeId) (fz:Nat×Nat) (hz:C.zb b) (hb:w.heap[b]?=some (.cells cs e fz))
   (hs:off+xs.length*k≤cs.size) (hk:∀x∈xs,x.length=k) (hr:RVs C w xs.flatten ((cs.toList.drop off).take (xs.length*k)) []):
   RV C w (.iadr k xs i c) (.pointer (some ⟨b,off+i*k+c,none⟩)) []
 |clo (name:String×Bool) (caps:List AV) (f:FuncId) (fn:Func) (cvs:List Value) (hf:C.P.funcs[f]?=some fn) (hn:fn.name=name.1) (hr:RVs C w caps cvs []):
   RV C w (.clo name caps) (.func (.func f) (bif name.2 then cvs.toArray else#[]) (bif name.2 then#[]else cvs.toArray)) []
 |slNil (τ:Tag) (k:Nat):RV C w (.sl τ k []) (.slice none 0 0) []
 |shrE (τ:Tag) (k:Nat) (a:Addr) (cap:Nat) (ht:τ≠.own):RV C w (.sl τ k []) (.slice (some a) 0 cap) []
 |own (k:Nat) (xs:List (List AV)) (b off cap:Nat) (cs:Array Value) (e:TypeId) (f:List Nat) (hb:w.heap[b]?=some (.cells cs e (0,0)))
   (hs:off+cap*k≤cs.size) (hc:xs.length≤cap) (hm:cap≤maxLen) (hk:∀x∈xs,x.length=k)
   (hr:RVs C w xs.flatten ((cs.toList.drop off).take (xs.length*k)) f):RV C w (.sl .own k xs) (.slice (some ⟨b,off,none⟩) xs.length cap) (b::f)
 |shr (τ:Tag) (k:Nat) (xs:List (List AV)) (b off cap:Nat) (cs:Array Value) (e:TypeId) (fz:Nat×Nat) (ht:τ≠.own) (hz:C.zb b) (hi:τ=.imm→C.zt b)
   (hb:w.heap[b]?=some (.cells cs e fz)) (hs:off+xs.length*k≤cs.size) (hc:xs.length≤cap) (hk:∀x∈xs,x.length=k)
   (hr:RVs C w xs.flatten ((cs.toList.drop off).take (xs.length*k)) []):RV C w (.sl τ k xs) (.slice (some ⟨b,off,none⟩) xs.length cap) []
inductive RVs (C:Ctx) (w:World):List AV→List Value→List Nat→Prop
 |nil:RVs C w [] [] []
 |cons (a:AV) (v:Value) (f:List Nat) (l:List AV) (m:List Value) (g:List Nat) (h:RV C w a v f) (t:RVs C w l m g):RVs C w (a::l) (v::m) (f++g)
end
mutual
theorem RV.frame{C C':Ctx}{w w':World}(hC:C.Le C')(hz:∀b,C.zb b→w'.heap[b]?=w.heap[b]?):
  ∀{a:AV} {v:Value} {f:List Nat},RV C w a v f→(∀b,b∈f→w'.heap[b]?=w.heap[b]?)→RV C' w' a v f
 |_,_,_,.lit v h,_=>.lit v h
 |_,_,_,.dead v h,_=>.dead v h
 |_,_,_,.ptr o c h,_=>by rw[←hC.lam o h];exact .ptr o c (Nat.lt_of_lt_of_le h hC.nx)
 |_,_,_,.ref p ver k lo n a cap,_=>.ref p ver k lo n a cap
 |_,_,_,.adr p ver k i c v,_=>.adr p ver k i c v
 |_,_,_,.iadr k xs i c b off cs e fz z hb hs hk hr,_=>.iadr k xs i c b off cs e fz (hC.zb b z) (by rw[hz b z];exact hb) hs hk (RVs.frame hC hz hr (by simp))
 |_,_,_,.clo name caps f fn cvs hf hn hr,_=>.clo name caps f fn cvs (by rw[hC.P];exact hf) hn (RVs.frame hC hz hr (by simp))
 |_,_,_,.slNil τ k,_=>.slNil τ k
 |_,_,_,.shrE τ k a cap ht,_=>.shrE τ k a cap ht
 |_,_,_,.own k xs b off cap cs e f hb hs hc hm hk hr,h=>
  .own k xs b off cap cs e f (by rw[h b (by simp)];exact hb) hs hc hm hk (RVs.frame hC hz hr (fun b' hb'=>h b' (by simp[hb'])))
 |_,_,_,.shr τ k xs b off cap cs e fz ht z hi hb hs hc hk hr,_=>
  .shr τ k xs b off cap cs e fz ht (hC.zb b z) (fun e=>hC.zt b (hi e)) (by rw[hz b z];exact hb) hs hc hk (RVs.frame hC hz hr (by simp))
theorem RVs.frame{C C':Ctx}{w w':World}(hC:C.Le C')(hz:∀b,C.zb b→w'.heap[b]?=w.heap[b]?):
  ∀{l:List AV} {m:List Value} {f:List Nat},RVs C w l m f→(∀b,b∈f→w'.heap[b]?=w.heap[b]?)→RVs C' w' l m f
 |_,_,_,.nil,_=>.nil
 |_,_,_,.cons a v f l m g h t,hb=>.cons a v f l m g (RV.frame hC hz h (fun b hf=>hb b (by simp[hf]))) (RVs.frame hC hz t (fun b hg=>hb b (by simp[hg])))
end
section
variable{C:Ctx}{w:World}
theorem RV.EJ{a:AV}{v:Value}{f:List Nat}(h:RV C w a v f):v.oneCell'=true:=by
 cases h<;>first|assumption|rfl
theorem RVs.length:∀{l:List AV} {m:List Value} {f:List Nat},RVs C w l m f→l.length=m.length
 |_,_,_,.nil=>rfl
 |_,_,_,.cons _ _ _ _ _ _ _ t=>by simp[RVs.length t]
theorem RVs.append:∀{l:List AV} {m:List Value} {f:List Nat},RVs C w l m f→∀{l' m' f'},RVs C w l' m' f'→RVs C w (l++l') (m++m') (f++f')
 |_,_,_,.nil,_,_,_,h'=>h'
 |_,_,_,.cons a v f l m g h t,_,_,_,h'=>by
  rw[List.append_assoc]
  exact .cons a v f _ _ _ h (RVs.append t h')
theorem RVs.split:∀(l:List AV) {l':List AV} {m:List Value} {f:List Nat},RVs C w (l++l') m f→
  ∃m1 m2 f1 f2,m=m1++m2∧f=f1++f2∧RVs C w l m1 f1∧RVs C w l' m2 f2
 |[],_,m,f,h=>⟨[],m,[],f,rfl,rfl,.nil,h⟩
 |a::l,_,_,_,.cons _ v f _ m g h t=>by
  obtain⟨m1,m2,f1,f2,rfl,rfl,h1,h2⟩:=RVs.split l t
  exact⟨v::m1,m2,f++f1,f2,rfl,by simp,.cons a v f l m1 f1 h h1,h2⟩
theorem RVs.one{a:AV}{v:Value}{f:List Nat}(h:RV C w a v f):RVs C w [a] [v] f:=by
 have:=RVs.cons a v f [] [] [] h .nil
 simpa using this
theorem RVs.Bk{a:AV}{m:List Value}{f:List Nat}(h:RVs C w [a] m f):∃v,m=[v]∧RV C w a v f:=by
 cases h with
 |cons _ v f _ m g h t=>cases t;exact⟨v,rfl,by simpa using h⟩
theorem RVs.nth{l:List AV}{m:List Value}{f:List Nat}(h:RVs C w l m f){j:Nat}{a:AV}(hj:l[j]?=some a):
  ∃m1 v m2 f1 fa f2,m=m1++v::m2∧m1.length=j∧f=f1++(fa++f2)∧RVs C w (l.take j) m1 f1∧RV C w a v fa∧RVs C w (l.drop (j+1)) m2 f2:=by
 have hlt:j<l.length:=by
  rcases Nat.lt_or_ge j l.length with h|h
  ·exact h
  ·simp[List.getElem?_eq_none h]at hj
 have ha:l[j]=a:=by simpa[List.getElem?_eq_getElem hlt]using hj
 have hl:l=l.take j++(a::l.drop (j+1)):=by rw[←ha,List.getElem_cons_drop hlt,List.take_append_drop]
 rw[hl]at h
 obtain⟨m1,m2,f1,f2,rfl,rfl,h1,h2⟩:=RVs.split _ h
 cases h2 with
 |cons _ v fa _ m2 f2 ha ht=>
  refine⟨m1,v,m2,f1,fa,f2,rfl,?_,rfl,h1,ha,ht⟩
  rw[←h1.length];simp;omega
theorem modify_eq{α:Type}(f:α→α)(l:List α)(j:Nat)(a:α)(hj:l[j]?=some a):l.modify j f=l.take j++(f a::l.drop (j+1)):=by
 have hlt:j<l.length:=by
  rcases Nat.lt_or_ge j l.length with h|h
  ·exact h
  ·simp[List.getElem?_eq_none h]at hj
 have ha:l[j]=a:=by simpa[List.getElem?_eq_getElem hlt]using hj
 rw[List.modify_eq_take_cons_drop hlt,ha]
end
theorem BO{α:Type}(k:Nat):∀(xs:List (List α)),(∀x∈xs,x.length=k)→xs.flatten.length=xs.length*k
 |[],_=>by simp
 |x::xs,h=>by
  have:=BO k xs (fun y hy=>h y (by simp[hy]))
  have hx:=h x (by simp)
  simp only[List.flatten_cons,List.length_append,List.length_cons,hx,this,Nat.succ_mul];omega
theorem BG?{α:Type}(k:Nat):∀(xs:List (List α)),(∀x∈xs,x.length=k)→∀(i c:Nat) (y:α),(xs[i]?).bind (·[c]?)=some y→xs.flatten[i*k+c]?=some y∧c<k∧i<xs.length
 |[],_,i,c,y,hy=>by simp at hy
 |x::xs,h,0,c,y,hy=>by
  have hx:=h x (by simp)
  simp at hy
  have hc:c<x.length:=by
   rcases Nat.lt_or_ge c x.length with h|h
   ·exact h
   ·simp[List.getElem?_eq_none h]at hy
  refine⟨?_,by omega,by simp⟩
  simp only[Nat.zero_mul,Nat.zero_add,List.flatten_cons]
  rw[List.getElem?_append_left hc];exact hy
 |x::xs,h,i+1,c,y,hy=>by
  have hx:=h x (by simp)
  obtain⟨h1,h2,h3⟩:=BG? k xs (fun y hy=>h y (by simp[hy])) i c y (by simpa using hy)
  refine⟨?_,h2,by simp;omega⟩
  rw[List.flatten_cons,List.getElem?_append_right (by rw[hx,Nat.succ_mul];omega),hx]
  rw[show(i+1)*k+c -k=i*k+c from by rw[Nat.succ_mul];omega]
  exact h1
theorem Ik{α:Type}(k:Nat)(g:α→α):∀(xs:List (List α)),(∀x∈xs,x.length=k)→∀(i c:Nat) (y:α),(xs[i]?).bind (·[c]?)=some y→
  (xs.modify i (·.modify c g)).flatten=xs.flatten.modify (i*k+c) g
 |[],_,i,c,y,hy=>by simp at hy
 |x::xs,h,0,c,y,hy=>by
  have hx:=h x (by simp)
  simp at hy
  have hc:c<x.length:=by
   rcases Nat.lt_or_ge c x.length with h|h
   ·exact h
   ·simp[List.getElem?_eq_none h]at hy
  simp only[List.modify_zero_cons,List.flatten_cons,Nat.zero_mul,Nat.zero_add]
  rw[modify_eq g x c y hy,modify_eq g (x++xs.flatten) c y (by rw[List.getElem?_append_left hc];exact hy)]
  rw[List.take_append_of_le_length (by omega),List.drop_append_of_le_length (by omega)]
  simp
 |x::xs,h,i+1,c,y,hy=>by
  have hx:=h x (by simp)
  have ih:=Ik k g xs (fun y hy=>h y (by simp[hy])) i c y (by simpa using hy)
  obtain⟨h1,h2,h3⟩:=BG? k xs (fun y hy=>h y (by simp[hy])) i c y (by simpa using hy)
  simp only[List.modify_succ_cons,List.flatten_cons]
  rw[ih]
  have e:(i+1)*k+c=x.length+(i*k+c):=by rw[hx,Nat.succ_mul];omega
  rw[modify_eq g xs.flatten _ y h1,modify_eq g (x++xs.flatten) ((i+1)*k+c) y (by rw[e,List.getElem?_append_right (by omega)];rw[Nat.add_sub_cancel_left];exact h1)]
  rw[e,List.take_append,List.drop_append,List.take_of_length_le (l:=x) (by omega),List.drop_eq_nil_of_le (by omega:x.length≤x.length+(i*k+c)+1)]
  simp[Nat.add_assoc]
theorem NS{α:Type}(k:Nat)(g:α→α)(xs:List (List α))(h:∀x∈xs,x.length=k)(i c:Nat):∀x∈xs.modify i (·.modify c g),x.length=k:=by
 intro x hx
 rw[List.mem_iff_getElem?]at hx
 obtain⟨j,hj⟩:=hx
 rw[List.getElem?_modify]at hj
 cases hxj:xs[j]?with
 |none=>simp[hxj]at hj
 |some y=>
  have hy:=h y (List.mem_of_getElem? hxj)
  simp only[hxj,Option.map_eq_map,Option.map_some,Option.some.injEq]at hj
  split at hj
  ·rw[←hj,List.length_modify];exact hy
  ·rw[←hj];exact hy
def AL(w:World):Value→List Stp→Option Value
 |v,[]=>some v
 |.slice (some ad) _ _,s::r=>(w.cell? ⟨ad.block,ad.off+s.i*s.k+s.c,none⟩).bind (AL w · r)
 |_,_=>none
def NL(w:World):Value→List Stp→Option Addr
 |.slice (some ad) _ _,[s]=>some ⟨ad.block,ad.off+s.i*s.k+s.c,none⟩
 |.slice (some ad) _ _,s::r=>(w.cell? ⟨ad.block,ad.off+s.i*s.k+s.c,none⟩).bind (NL w · r)
 |_,_=>none
section
variable{C:Ctx}{w:World}
theorem AE{w:World}{b:Nat}{cs:Array Value}{e:TypeId}{fz:Nat×Nat}(h:w.heap[b]?=some (.cells cs e fz))(i:Nat):w.cell? ⟨b,i,none⟩=cs[i]?:=by
 simp[World.cell?,h]
theorem DS(cs:Array Value)(off n j:Nat)(v:Value)(h:((cs.toList.drop off).take n)[j]?=some v):cs[off+j]?=some v∧j<n:=by
 rw[List.getElem?_take]at h
 split at h
 ·rename_i hj
  rw[List.getElem?_drop]at h
  exact⟨by simpa using h,hj⟩
 ·cases h
theorem Lg{k:Nat}{xs:List (List AV)}{v:Value}{f:List Nat}(h:RV C w (.sl .own k xs) v f){i c:Nat}{a:AV}(ha:(xs[i]?).bind (·[c]?)=some a):
  ∃b off cap cs e m1 u m2 f1 fa f2,v=.slice (some ⟨b,off,none⟩) xs.length cap∧f=b::(f1++(fa++f2))∧w.heap[b]?=some (.cells cs e (0,0))∧off+cap*k≤cs.size∧
   xs.length≤cap∧cap≤maxLen∧(∀x∈xs,x.length=k)∧(cs.toList.drop off).take (xs.length*k)=m1++u::m2∧m1.length=i*k+c∧cs[off+i*k+c]?=some u∧
   RVs C w (xs.flatten.take (i*k+c)) m1 f1∧RV C w a u fa∧RVs C w (xs.flatten.drop (i*k+c+1)) m2 f2:=by
 cases h with
 |slNil=>simp at ha
 |shrE _ _ _ _ ht=>exact absurd rfl ht
 |shr _ _ _ _ _ _ _ _ _ ht=>exact absurd rfl ht
 |own k xs b off cap cs e f hb hs hc hm hk hr=>
  obtain⟨h1,h2,h3⟩:=BG? k xs hk i c a ha
  obtain⟨m1,u,m2,f1,fa,f2,hm1,hl,rfl,r1,ra,r2⟩:=hr.nth h1
  have hu:((cs.toList.drop off).take (xs.length*k))[i*k+c]?=some u:=by
   rw[hm1,List.getElem?_append_right (by omega)];simp[hl]
  have:=(DS cs off _ _ u hu).1
  exact⟨b,off,cap,cs,e,m1,u,m2,f1,fa,f2,rfl,rfl,hb,hs,hc,hm,hk,hm1,hl,by rw[Nat.add_assoc];exact this,r1,ra,r2⟩
theorem N1{k:Nat}{xs:List (List AV)}{b off cap:Nat}{cs:Array Value}{e:TypeId}{m1 m2:List Value}{u:Value}{f1 fa f2:List Nat}{i c:Nat}{a:AV}(g:AV→AV)
  (ha:(xs[i]?).bind (·[c]?)=some a) (hb:w.heap[b]?=some (.cells cs e (0,0))) (hs:off+cap*k≤cs.size) (hc:xs.length≤cap) (hm:cap≤maxLen) (hk:∀x∈xs,x.length=k)
  (hw:(cs.toList.drop off).take (xs.length*k)=m1++u::m2) (r1:RVs C w (xs.flatten.take (i*k+c)) m1 f1) (ra:RV C w (g a) u fa) (r2:RVs C w (xs.flatten.drop (i*k+c+1)) m2 f2):
  RV C w (.sl .own k (xs.modify i (·.modify c g))) (.slice (some ⟨b,off,none⟩) xs.length cap) (b::(f1++(fa++f2))):=by
 have hx:=(BG? k xs hk i c a ha).1
 have hlen:(xs.modify i (·.modify c g)).length=xs.length:=List.length_modify _ _ _
 have:=RV.own (C:=C) (w:=w) k (xs.modify i (·.modify c g)) b off cap cs e (f1++(fa++f2)) hb hs (by rw[hlen];exact hc) hm (NS k g xs hk i c) (by
  rw[hlen,hw,Ik k g xs hk i c a ha,modify_eq g _ _ a hx]
  exact r1.append (RVs.cons _ _ _ _ _ _ ra r2))
 rw[hlen]at this
 exact this
theorem RV.lens:∀(p:List Stp) {a:AV} {v:Value} {f:List Nat} {b:AV},RV C w a v f→a.at p=some b→
  ∃u f1 fb f2,AL w v p=some u∧RV C w b u fb∧f=f1++(fb++f2)∧∀b' fb',RV C w b' u fb'→RV C w (a.put p b') v (f1++(fb'++f2))
 |[],a,v,f,b,h,hp=>by
  simp only[AV.at,Option.some.injEq]at hp
  subst hp
  exact⟨v,[],f,[],rfl,h,by simp,fun b' fb' h'=>by simpa[AV.put]using h'⟩
 |s::r,a,v,f,b,h,hp=>by
  match a,h,hp with
  |.sl .own k xs,h,hp=>
   simp only[AV.at]at hp
   split at hp
   case isFalse=>cases hp
   rename_i hk
   cases ha:(xs[s.i]?).bind (·[s.c]?)with
   |none=>rw[ha]at hp;cases hp
   |some a1=>
    rw[ha]at hp
    obtain⟨bk,off,cap,cs,e,m1,u,m2,f1,fa,f2,rfl,rfl,hb,hs,hc,hm,hkk,hw,hl,hcu,r1,ra,r2⟩:=Lg h ha
    obtain⟨u',g1,fb,g2,hcn,hrb,rfl,hput⟩:=RV.lens r ra (by simpa using hp)
    refine⟨u',bk::(f1++g1),fb,g2++f2,?_,hrb,by simp,?_⟩
    ·simp only[AL]
     rw[hk,AE hb,hcu]
     exact hcn
    ·intro b' fb' h'
     have hq:=N1 (g:=(·.put r b')) ha hb hs hc hm hkk hw r1 (hput b' fb' h') r2
     simp only[AV.put,hk,if_true]
     simpa using hq
  |.lit _,_,hp=>simp[AV.at]at hp
  |.sl .imm _ _,_,hp=>simp[AV.at]at hp
  |.sl .brw _ _,_,hp=>simp[AV.at]at hp
  |.ptr ..,_,hp=>simp[AV.at]at hp
  |.ref ..,_,hp=>simp[AV.at]at hp
  |.adr ..,_,hp=>simp[AV.at]at hp
  |.iadr ..,_,hp=>simp[AV.at]at hp
  |.clo ..,_,hp=>simp[AV.at]at hp
  |.dead,_,hp=>simp[AV.at]at hp
theorem Tu(cs:Array Value)(off n j:Nat)(v:Value):(((cs.setIfInBounds (off+j) v).toList.drop off).take n)=((cs.toList.drop off).take n).set j v:=by
 apply List.ext_getElem?
 intro i
 simp only[List.getElem?_take,List.getElem?_drop,List.getElem?_set,Array.toList_setIfInBounds,List.length_take,List.length_drop]
 by_cases hi:i<n
 ·simp only[hi,if_true]
  by_cases hj:j=i
  ·subst hj
   simp only[if_true]
   by_cases h2:off+j<cs.toList.length
   ·rw[if_pos h2,if_pos (by omega)]
   ·rw[if_neg h2,if_neg (by omega)]
  ·rw[if_neg (by omega),if_neg hj]
 ·simp only[hi,if_false]
  by_cases hj:j=i
  ·subst hj;rw[if_pos rfl,if_neg (by omega)]
  ·rw[if_neg hj]
theorem Kf{α:Type}(m1 m2:List α)(u v:α):(m1++u::m2).set m1.length v=m1++v::m2:=by
 rw[List.set_append_right _ _ (Nat.le_refl _)];simp
theorem DM(w:World)(a:Addr)(v:Value)(x:Nat)(h:x≠a.block):(w.setCell a v).heap[x]?=w.heap[x]?:=heap_setCell_other w a x v h
theorem C7:∀(p:List Stp) {a:AV} {v:Value} {f:List Nat} {w':World} {k:Nat} {xs:List (List AV)},RV C w a v f→a.at p=some (.sl .own k xs)→
  (∀x,x∈f→w'.heap[x]?=w.heap[x]?)→AL w' v p=AL w v p
 |[],_,_,_,_,_,_,_,_,_=>by simp[AL]
 |s::r,a,v,f,w',k',xs',h,hp,hf=>by
  match a,h,hp with
  |.sl .own k xs,h,hp=>
   simp only[AV.at]at hp
   split at hp
   case isFalse=>cases hp
   rename_i hk
   cases ha:(xs[s.i]?).bind (·[s.c]?)with
   |none=>rw[ha]at hp;cases hp
   |some a1=>
    rw[ha]at hp
    obtain⟨bk,off,cap,cs,e,m1,u,m2,f1,fa,f2,rfl,rfl,hb,hs,hc,hm,hkk,hw,hl,hcu,r1,ra,r2⟩:=Lg h ha
    have hb':w'.heap[bk]?=some (.cells cs e (0,0)):=by rw[hf bk (by simp)];exact hb
    simp only[AL]
    rw[AE hb,AE hb',hk,hcu]
    exact C7 r ra (by simpa using hp) (fun x hx=>hf x (by simp[hx]))
  |.lit _,_,hp=>simp[AV.at]at hp
  |.sl .imm _ _,_,hp=>simp[AV.at]at hp
  |.sl .brw _ _,_,hp=>simp[AV.at]at hp
  |.ptr ..,_,hp=>simp[AV.at]at hp
  |.ref ..,_,hp=>simp[AV.at]at hp
  |.adr ..,_,hp=>simp[AV.at]at hp
  |.iadr ..,_,hp=>simp[AV.at]at hp
  |.clo ..,_,hp=>simp[AV.at]at hp
  |.dead,_,hp=>simp[AV.at]at hp
def Aside(p q:List Stp):Prop:=¬∃r,q=p++r
theorem SN{xs:List AV}{cs:Array Value}{off n si ti:Nat}{m1 m2:List Value}{u:Value}{f1 f2:List Nat}{a2:AV}
  (hw:(cs.toList.drop off).take n=m1++u::m2) (hl:m1.length=si) (r1:RVs C w (xs.take si) m1 f1) (r2:RVs C w (xs.drop (si+1)) m2 f2) (hne:ti≠si) (hat:xs[ti]?=some a2):
  ∃u2 g,cs[off+ti]?=some u2∧RV C w a2 u2 g∧∀x∈g,x∈f1∨x∈f2:=by
 rcases Nat.lt_or_ge ti si with hlt|hge
 ·have h1:(xs.take si)[ti]?=some a2:=by rw[List.getElem?_take,if_pos hlt];exact hat
  obtain⟨n1,v,n2,g1,ga,g2,rfl,hn,rfl,_,ra,_⟩:=r1.nth h1
  refine⟨v,ga,(DS cs off n ti v ?_).1,ra,fun x hx=>.inl (by simp[hx])⟩
  rw[hw,List.append_assoc,List.getElem?_append_right (by omega)];simp[hn]
 ·have h1:(xs.drop (si+1))[ti -si -1]?=some a2:=by rw[List.getElem?_drop,show si+1+(ti -si -1)=ti from by omega];exact hat
  obtain⟨n1,v,n2,g1,ga,g2,rfl,hn,rfl,_,ra,_⟩:=r2.nth h1
  refine⟨v,ga,(DS cs off n ti v ?_).1,ra,fun x hx=>.inr (by simp[hx])⟩
  rw[hw,List.getElem?_append_right (by omega),hl,show ti -si=(ti -si -1)+1 from by omega,List.getElem?_cons_succ,List.getElem?_append_right (by omega)];simp[hn]
theorem RV.TR:∀(p:List Stp) {a:AV} {v:Value} {f:List Nat} {b:AV},p≠[]→RV C w a v f→a.at p=some b→
  ∃loc u f1 fb f2 cs e,NL w v p=some loc∧loc.spot=none∧w.cell? loc=some u∧w.heap[loc.block]?=some (.cells cs e (0,0))∧RV C w b u fb∧f=f1++(fb++f2)∧loc.block∈f1∧
   (f.Nodup→(∀x,C.zb x→x∉f)→∀b' v' fb',RV C w b' v' fb'→loc.block∉fb'→
    RV C (w.setCell loc v') (a.put p b') v (f1++(fb'++f2))∧
    ∀q k xs,Aside p q→a.at q=some (.sl .own k xs)→AL (w.setCell loc v') v q=AL w v q)
 |[],_,_,_,_,hne,_,_=>absurd rfl hne
 |s::r,a,v,f,b,_,h,hp=>by
  match a,h,hp with
  |.sl .own k xs,h,hp=>
   simp only[AV.at]at hp
   split at hp
   case isFalse=>cases hp
   rename_i hk
   cases ha:(xs[s.i]?).bind (·[s.c]?)with
   |none=>rw[ha]at hp;cases hp
   |some a1=>
    rw[ha]at hp
    obtain⟨bk,off,cap,cs,e,m1,u,m2,f1,fa,f2,rfl,rfl,hb,hs,hc,hm,hkk,hw,hl,hcu,r1,ra,r2⟩:=Lg h ha
    match r,hp with
    |[],hp=>
     simp only[AV.at,Option.bind_some,Option.some.injEq]at hp
     subst hp
     refine⟨⟨bk,off+s.i*s.k+s.c,none⟩,u,bk::f1,fa,f2,cs,e,rfl,rfl,?_,hb,ra,by simp,by simp,?_⟩
     ·rw[AE hb,hk,hcu]
     ·intro hnd hz b' v' fb' hb' hnb
      rw[hk]
      have hother:∀x,x≠bk→(w.setCell ⟨bk,off+s.i*k+s.c,none⟩ v').heap[x]?=w.heap[x]?:=fun x hx=>DM w _ v' x hx
      have hzb:∀x,C.zb x→(w.setCell ⟨bk,off+s.i*k+s.c,none⟩ v').heap[x]?=w.heap[x]?:=fun x hx=>hother x (fun e=>hz x hx (by simp[e]))
      have hnd':=List.nodup_cons.1 hnd
      have fr:∀x,x∈f1∨x∈f2→x≠bk:=fun x hx e=>hnd'.1 (by subst e;rcases hx with hx|hx<;>simp[hx])
      have hbn:(w.setCell ⟨bk,off+s.i*k+s.c,none⟩ v').heap[bk]?=some (.cells (cs.setIfInBounds (off+s.i*k+s.c) v') e (0,0)):=heap_setCell_same w bk _ cs e v' hb
      refine⟨?_,?_⟩
      ·have hq:=N1 (C:=C) (w:=w.setCell ⟨bk,off+s.i*k+s.c,none⟩ v') (g:=fun _=>b') (u:=v') (fa:=fb') (m1:=m1) (m2:=m2) ha hbn (by rw[Array.size_setIfInBounds];exact hs) hc hm hkk
        (by rw[Nat.add_assoc,Tu,hw,←hl,Kf])
        (r1.frame (Ctx.Le.refl C) hzb (fun x hx=>hother x (fr x (.inl hx))))
        (hb'.frame (Ctx.Le.refl C) hzb (fun x hx=>hother x (fun e=>hnb (e▸hx))))
        (r2.frame (Ctx.Le.refl C) hzb (fun x hx=>hother x (fr x (.inr hx))))
       simp only[AV.put,hk,if_true]
       simpa using hq
      ·intro q k' xs' hq hat
       match q,hat with
       |[],_=>simp[AL]
       |t::q',hat=>
        simp only[AV.at]at hat
        split at hat
        case isFalse=>cases hat
        rename_i htk
        cases hat1:(xs[t.i]?).bind (·[t.c]?)with
        |none=>rw[hat1]at hat;cases hat
        |some a2=>
         rw[hat1]at hat
         have hij:off+t.i*k+t.c≠off+s.i*k+s.c:=by
          intro e
          obtain⟨h1,h2,_⟩:=BG? k xs hkk t.i t.c a2 hat1
          obtain⟨h3,h4,_⟩:=BG? k xs hkk s.i s.c a1 ha
          have e':t.i*k+t.c=s.i*k+s.c:=by omega
          have ei:t.i=s.i:=by
           have hkpos:0<k:=by omega
           have x1:(t.i*k+t.c)/k=t.i:=by rw[Nat.mul_comm,Nat.mul_add_div hkpos,Nat.div_eq_of_lt h2];rfl
           have x2:(s.i*k+s.c)/k=s.i:=by rw[Nat.mul_comm,Nat.mul_add_div hkpos,Nat.div_eq_of_lt h4];rfl
           rw[←x1,←x2,e']
          have ec:t.c=s.c:=by rw[ei]at e';omega
          refine hq ⟨q',?_⟩
          have:t=s:=by cases t;cases s;simp_all
          simp[this]
         obtain⟨bk2,off2,cap2,cs2,e2,n1,u2,n2,g1,ga,g2,hveq,hfeq,hb2,hs2,_,_,_,hw2,hl2,hcu2,q1,qa,q2⟩:=Lg h hat1
         simp only[Value.slice.injEq,Option.some.injEq,Addr.mk.injEq]at hveq
         obtain⟨⟨rfl,rfl,_⟩,_,rfl⟩:=hveq
         obtain rfl:cs=cs2:=by rw[hb]at hb2;simp at hb2;exact hb2.1
         simp only[AL]
         rw[AE hbn,AE hb,htk]
         have hset:(cs.setIfInBounds (off+s.i*k+s.c) v')[off+t.i*k+t.c]?=cs[off+t.i*k+t.c]?:=Array.getElem?_setIfInBounds_ne (by omega)
         rw[hset,hcu2]
         simp only[Option.bind_some]
         have hsub:∀x,x∈ga→x≠bk:=by
          intro x hx e
          have:bk∉f1++(fa++f2):=hnd'.1
          simp only[List.cons.injEq,true_and]at hfeq
          rw[hfeq]at this
          exact this (by simp[←e,hx])
         exact C7 q' qa (by simpa using hat) (fun x hx=>hother x (hsub x hx))
    |s'::r',hp=>
     obtain⟨loc,u',g1,fb,g2,cs',e',hloc,hspot,hcell,hbl,hrb,rfl,hin,hput⟩:=RV.TR (s'::r') (by simp) ra (by simpa using hp)
     have hcu':w.cell? ⟨bk,off+s.i*s.k+s.c,none⟩=some u:=by rw[AE hb,hk,hcu]
     refine⟨loc,u',bk::(f1++g1),fb,g2++f2,cs',e',?_,hspot,hcell,hbl,hrb,by simp,by simp[hin],?_⟩
     ·simp only[NL,hcu',Option.bind_some];exact hloc
     ·intro hnd hz b' v' fb' hb' hnb
      have hnd':=List.nodup_cons.1 hnd
      have hndi:(f1++(g1++(fb++g2)++f2)).Nodup:=hnd'.2
      have hnda:=(List.nodup_append.1 (List.nodup_append.1 hndi).2.1).1
      have hne:loc.block≠bk:=fun e=>hnd'.1 (by rw[←e];simp[hin])
      have fr:∀x,x∈f1∨x∈f2→x≠loc.block:=by
       intro x hx e
       have d:=List.nodup_append.1 hndi
       rcases hx with hx|hx
       ·exact d.2.2 x hx loc.block (by simp[hin]) e
       ·have d2:=List.nodup_append.1 d.2.1
        exact d2.2.2 loc.block (by simp[hin]) x hx e.symm
      have hother:∀x,x≠loc.block→(w.setCell loc v').heap[x]?=w.heap[x]?:=fun x hx=>DM w loc v' x hx
      have hzb:∀x,C.zb x→(w.setCell loc v').heap[x]?=w.heap[x]?:=fun x hx=>hother x (fun e=>hz x hx (by simp[e,hin]))
      obtain⟨hput1,hput2⟩:=hput hnda (fun x hx hm=>hz x hx (by
       simp only[List.mem_cons,List.mem_append]at hm⊢
       rcases hm with hm|hm|hm<;>simp[hm])) b' v' fb' hb' hnb
      have hbn:(w.setCell loc v').heap[bk]?=some (.cells cs e (0,0)):=by rw[hother bk (fun e=>hne e.symm)];exact hb
      refine⟨?_,?_⟩
      ·have hq:=N1 (C:=C) (w:=w.setCell loc v') (g:=(·.put (s'::r') b')) (u:=u) (m1:=m1) (m2:=m2) ha hbn hs hc hm hkk hw
        (r1.frame (Ctx.Le.refl C) hzb (fun x hx=>hother x (fr x (.inl hx)))) hput1
        (r2.frame (Ctx.Le.refl C) hzb (fun x hx=>hother x (fr x (.inr hx))))
       rw[AV.put,if_pos hk]
       simpa using hq
      ·intro q k' xs' hq hat
       match q,hat with
       |[],_=>simp[AL]
       |t::q',hat=>
        simp only[AV.at]at hat
        split at hat
        case isFalse=>cases hat
        rename_i htk
        cases hat1:(xs[t.i]?).bind (·[t.c]?)with
        |none=>rw[hat1]at hat;cases hat
        |some a2=>
         rw[hat1]at hat
         simp only[AL]
         by_cases hts:t.i=s.i∧t.c=s.c
         ·obtain⟨hti,htc⟩:=hts
          rw[hti,htc,ha]at hat1
          cases hat1
          have et:t=s:=by cases t;cases s;simp_all
          rw[et,AE hbn,AE hb,hk,hcu]
          simp only[Option.bind_some]
          refine hput2 q' k' xs' (fun⟨r2,hr2⟩=>hq ⟨r2,?_⟩) (by simpa using hat)
          rw[et,hr2];rfl
         ·have hti:=(BG? k xs hkk t.i t.c a2 hat1)
          have hsi:=(BG? k xs hkk s.i s.c a1 ha)
          obtain⟨u2,ga,hcu2,qa,hsub⟩:=SN hw hl r1 r2 (fun e=>hts (by
           obtain⟨_,h2,_⟩:=hti
           obtain⟨_,h4,_⟩:=hsi
           have hkpos:0<k:=by omega
           have x1:(t.i*k+t.c)/k=t.i:=by rw[Nat.mul_comm,Nat.mul_add_div hkpos,Nat.div_eq_of_lt h2];rfl
           have x2:(s.i*k+s.c)/k=s.i:=by rw[Nat.mul_comm,Nat.mul_add_div hkpos,Nat.div_eq_of_lt h4];rfl
           have ei:t.i=s.i:=by rw[←x1,←x2,e]
           exact⟨ei,by rw[ei]at e;omega⟩)) hti.1
          rw[AE hbn,AE hb,htk,show off+t.i*k+t.c=off+(t.i*k+t.c)from by omega,hcu2]
          simp only[Option.bind_some]
          exact C7 q' qa (by simpa using hat) (fun x hx=>hother x (fr x (hsub x hx)))
  |.lit _,_,hp=>simp[AV.at]at hp
  |.sl .imm _ _,_,hp=>simp[AV.at]at hp
  |.sl .brw _ _,_,hp=>simp[AV.at]at hp
  |.ptr ..,_,hp=>simp[AV.at]at hp
  |.ref ..,_,hp=>simp[AV.at]at hp
  |.adr ..,_,hp=>simp[AV.at]at hp
  |.iadr ..,_,hp=>simp[AV.at]at hp
  |.clo ..,_,hp=>simp[AV.at]at hp
  |.dead,_,hp=>simp[AV.at]at hp
end
end Go.VS
namespace Go.VS
inductive Ky
 |s (t:Nat)
 |o (o:Nat)
 |h (i:Nat)
 deriving DecidableEq
structure Env where
 P:Pg
 w0:World
 f0:Nat→Prop
 i0:Nat→Prop
 nt:Nat
 n0:Nat
 l0:Nat→Nat
 lw:World
def Qu:List (String×(IntKind×List Int)):=[("internal/strconv.uint64pow10",(.u64,Lib.pow10Tab))]
structure HY(P:Program)(W:World):Prop where
 tab:∀e∈Qu,(P.globalNamed e.1).isSome=true→Lib.TabIs P W e.1 e.2.1 e.2.2
 ml:∀g,P.globalNamed "internal/bytealg.MaxLen" =some g→∃m,W.cell? ⟨g,0,none⟩=some (.int .i64 m)
theorem HY.of{P:Program}{W w:World}(h:HY P W)(he:∀b,b<W.heap.size→w.heap[b]?=W.heap[b]?):HY P w:=by
 refine⟨?_,?_⟩
 ·intro e hm hs
  have:=h.tab e hm hs
  unfold Lib.TabIs World.var? at this⊢
  cases hg:P.globalNamed e.1 with
  |none=>rw[hg]at this;cases this
  |some g=>
   rw[hg]at this
   simp only[Option.bind_some]at this⊢
   have hlt:g<W.heap.size:=by
    rcases Nat.lt_or_ge g W.heap.size with h|h
    ·exact h
    ·rw[Array.getElem?_eq_none h]at this;cases this
   rw[he g hlt];exact this
 ·intro g hg
  obtain⟨m,hm⟩:=h.ml g hg
  refine⟨m,?_⟩
  have hlt:g<W.heap.size:=by
   rcases Nat.lt_or_ge g W.heap.size with h|h
   ·exact h
   ·simp[World.cell?,Array.getElem?_eq_none h]at hm
  unfold World.cell? at hm⊢
  rw[he g hlt]
  exact hm
structure I0(E:Env):Prop where
 own:∀b,E.i0 b→b<E.w0.heap.size∧¬E.f0 b
 lt:∀b,b<E.lw.heap.size→b<E.w0.heap.size∧¬E.f0 b
 eq:∀b,b<E.lw.heap.size→E.w0.heap[b]?=E.lw.heap[b]?
 good:HY E.P E.lw
def ctx(E:Env)(lam:Nat→Nat)(z:Nat→Prop)(nx:Nat):Ctx:=⟨E.P,lam,nx,fun b=>E.i0 b∨z b,fun b=>(b<E.w0.heap.size∧¬E.f0 b)∨z b⟩
def upk(fp:Ky→List Nat)(κ:Ky)(f:List Nat):Ky→List Nat:=fun κ'=>if κ'=κ then f else fp κ'
@[simp] theorem A8(fp:Ky→List Nat)(κ:Ky)(f:List Nat):upk fp κ f κ=f:=by simp[upk]
theorem AO(fp:Ky→List Nat){κ κ':Ky}(f:List Nat)(h:κ'≠κ):upk fp κ f κ'=fp κ':=by simp[upk,h]
def RSV(C:Ctx)(w:World):SV→Value→List Nat→Prop
 |.one a,v,f=>RV C w a v f
 |.agg l,v,f=>∃cs,v=.agg cs∧RVs C w l cs.toList f
def D5(C:Ctx)(w:World):List SV→List Value→List Nat→Prop
 |[],[],f=>f=[]
 |s::l,v::m,f=>∃f1 f2,f=f1++f2∧RSV C w s v f1∧D5 C w l m f2
 |_,_,_=>False
def RTV(C:Ctx)(w:World):TV→Value→List Nat→Prop
 |.val g s,v,f=>(g=true→RSV C w s v f)∧(g=false→v=undef∧f=[])
 |.tup l,v,f=>∃vs,v=.tuple vs∧D5 C w l vs.toList f
 |.dead,_,f=>f=[]
theorem RSV.frame{C C':Ctx}{w w':World}(hC:C.Le C')(hz:∀b,C.zb b→w'.heap[b]?=w.heap[b]?){s:SV}{v:Value}{f:List Nat}(h:RSV C w s v f)
  (hf:∀b,b∈f→w'.heap[b]?=w.heap[b]?):RSV C' w' s v f:=by
 cases s with
 |one a=>exact RV.frame hC hz h hf
 |agg l=>obtain⟨cs,e,h⟩:=h;exact⟨cs,e,RVs.frame hC hz h hf⟩
theorem D5.frame{C C':Ctx}{w w':World}(hC:C.Le C')(hz:∀b,C.zb b→w'.heap[b]?=w.heap[b]?):∀{l:List SV} {m:List Value} {f:List Nat},D5 C w l m f→
  (∀b,b∈f→w'.heap[b]?=w.heap[b]?)→D5 C' w' l m f
 |[],[],_,h,_=>h
 |s::l,v::m,f,h,hf=>by
  obtain⟨f1,f2,rfl,h1,h2⟩:=h
  exact⟨f1,f2,rfl,h1.frame hC hz (fun b hb=>hf b (by simp[hb])),D5.frame hC hz h2 (fun b hb=>hf b (by simp[hb]))⟩
theorem RTV.frame{C C':Ctx}{w w':World}(hC:C.Le C')(hz:∀b,C.zb b→w'.heap[b]?=w.heap[b]?){x:TV}{v:Value}{f:List Nat}(h:RTV C w x v f)
  (hf:∀b,b∈f→w'.heap[b]?=w.heap[b]?):RTV C' w' x v f:=by
 cases x with
 |val g s=>exact⟨fun hg=>(h.1 hg).frame hC hz hf,h.2⟩
 |tup l=>obtain⟨vs,e,h⟩:=h;exact⟨vs,e,h.frame hC hz hf⟩
 |dead=>exact h
abbrev Hands:=Nat→List AV×List Value
def Am:Hands:=fun _=>([],[])
structure Xc(E:Env)(z:Nat→Prop)(fp:Ky→List Nat)(w:World):Prop where
 nod:∀κ,(fp κ).Nodup
 dis:∀κ κ' b,κ≠κ'→b∈fp κ→b∉fp κ'
 ok:∀κ b,b∈fp κ→b<w.heap.size∧(E.f0 b∨E.w0.heap.size≤b)∧¬z b
def AB(C:Ctx)(hd:Hands)(st:St)(tm:Array Value)(w:World):Ky→List Nat→Prop
 |.s t,f=>RTV C w (st.sl t) (tm.getD t undef) f
 |.h i,f=>RVs C w (hd i).1 (hd i).2 f
 |.o o,f=>∀l,st.hp.get o=some l→o<C.nx∧∃cs e f',w.heap[C.lam o]?=some (.cells cs e (0,0))∧RVs C w l cs.toList f'∧f=C.lam o::f'
structure Ax(E:Env)(lam:Nat→Nat)(z:Nat→Prop)(fp:Ky→List Nat)(hd:Hands)(st:St)(tm:Array Value)(w:World):Prop where
 keys:∀κ,AB (ctx E lam z st.hp.next) hd st tm w κ (fp κ)
 fps:Xc E z fp w
 z:∀b,z b→b<w.heap.size∧(E.f0 b∨E.w0.heap.size≤b)
 frame:∀b,b<E.w0.heap.size→¬E.f0 b→w.heap[b]?=E.w0.heap[b]?
 os:w.os=E.w0.os
 tape:w.tape=E.w0.tape
 output:w.output=E.w0.output
 size:E.w0.heap.size≤w.heap.size
 tsz:tm.size=E.nt
 base:E.n0≤st.hp.next∧∀o,o<E.n0→lam o=E.l0 o
 i0:I0 E
theorem AB.frame{C C':Ctx}{w w':World}{hd:Hands}{st:St}{tm:Array Value}(hC:C.Le C')(hz:∀b,C.zb b→w'.heap[b]?=w.heap[b]?){κ:Ky}{f:List Nat}
  (h:AB C hd st tm w κ f) (hf:∀b,b∈f→w'.heap[b]?=w.heap[b]?):AB C' hd st tm w' κ f:=by
 cases κ with
 |s t=>exact RTV.frame hC hz h hf
 |h i=>exact RVs.frame hC hz h hf
 |o o=>
  intro l hl
  obtain⟨h1,cs,e,f',h2,h3,h4⟩:=h l hl
  refine⟨Nat.lt_of_lt_of_le h1 hC.nx,cs,e,f',?_,RVs.frame hC hz h3 (fun b hb=>hf b (by rw[h4];simp[hb])),by rw[hC.lam o h1];exact h4⟩
  rw[hC.lam o h1,hf _ (by rw[h4];simp)];exact h2
structure Moves(may:Nat→Prop)(w w':World):Prop where
 os:w'.os=w.os
 tape:w'.tape=w.tape
 output:w'.output=w.output
 size:w.heap.size≤w'.heap.size
 block:∀b,b<w.heap.size→¬may b→w'.heap[b]?=w.heap[b]?
theorem Moves.refl(may:Nat→Prop)(w:World):Moves may w w:=⟨rfl,rfl,rfl,Nat.le_refl _,fun _ _ _=>rfl⟩
theorem Moves.drew(may:Nat→Prop)(w:World):Moves may w w.drew:=⟨rfl,rfl,rfl,Nat.le_refl _,fun _ _ _=>rfl⟩
theorem Moves.alloc(may:Nat→Prop)(w:World)(o:Obj):Moves may w (w.alloc o):=⟨rfl,rfl,rfl,by simp,fun b hb _=>heap_alloc_old w o hb⟩
theorem Moves.trans{may:Nat→Prop}{a b c:World}(h:Moves may a b)(k:Moves may b c):Moves may a c:=
 ⟨k.os.trans h.os,k.tape.trans h.tape,k.output.trans h.output,Nat.le_trans h.size k.size,fun x hx hm=>(k.block x (Nat.lt_of_lt_of_le hx h.size) hm).trans (h.block x hx hm)⟩
theorem Moves.mono{may may':Nat→Prop}{a b:World}(h:Moves may a b)(hm:∀x,may x→may' x):Moves may' a b:=
 ⟨h.os,h.tape,h.output,h.size,fun x hx hn=>h.block x hx (fun hy=>hn (hm x hy))⟩
section
variable{E:Env}{lam:Nat→Nat}{z:Nat→Prop}{fp:Ky→List Nat}{hd:Hands}{st:St}{tm:Array Value}{w:World}
theorem Xc.two(F:Xc E z fp w)(hsz:E.w0.heap.size≤w.heap.size)(hz:∀b,z b→b<w.heap.size){w':World}(hw:w.heap.size≤w'.heap.size)(κ1 κ2:Ky)(fp':Ky→List Nat)
  (hsame:∀κ,κ≠κ1→κ≠κ2→fp' κ=fp κ) (n1:(fp' κ1).Nodup) (n2:(fp' κ2).Nodup) (d12:κ1≠κ2→∀b,b∈fp' κ1→b∉fp' κ2)
  (from1:∀b,b∈fp' κ1→b∈fp κ1∨b∈fp κ2∨(w.heap.size≤b∧b<w'.heap.size)) (from2:∀b,b∈fp' κ2→b∈fp κ1∨b∈fp κ2∨(w.heap.size≤b∧b<w'.heap.size)):
  Xc E z fp' w':=by
 have out:∀κ,κ≠κ1→κ≠κ2→∀b,(b∈fp' κ1∨b∈fp' κ2)→b∉fp κ:=by
  intro κ h1 h2 b hb hk
  have:b∈fp κ1∨b∈fp κ2∨(w.heap.size≤b∧b<w'.heap.size):=by
   rcases hb with hb|hb
   ·exact from1 b hb
   ·exact from2 b hb
  rcases this with h|h|h
  ·exact F.dis κ κ1 b h1 hk h
  ·exact F.dis κ κ2 b h2 hk h
  ·have:=(F.ok κ b hk).1;omega
 have okn:∀b,(b∈fp κ1∨b∈fp κ2∨(w.heap.size≤b∧b<w'.heap.size))→b<w'.heap.size∧(E.f0 b∨E.w0.heap.size≤b)∧¬z b:=by
  rintro b (h|h|h)
  ·obtain⟨x,y⟩:=F.ok _ b h;exact⟨Nat.lt_of_lt_of_le x hw,y⟩
  ·obtain⟨x,y⟩:=F.ok _ b h;exact⟨Nat.lt_of_lt_of_le x hw,y⟩
  ·exact⟨h.2,.inr (Nat.le_trans hsz h.1),fun hzz=>by have:=hz b hzz;omega⟩
 refine⟨?_,?_,?_⟩
 ·intro κ
  by_cases h1:κ=κ1
  ·subst h1;exact n1
  ·by_cases h2:κ=κ2
   ·subst h2;exact n2
   ·rw[hsame κ h1 h2];exact F.nod κ
 ·intro κ κ' b hne hb hb'
  by_cases h1:κ=κ1
  ·subst h1
   by_cases h2:κ'=κ2
   ·subst h2;exact d12 hne b hb hb'
   ·rw[hsame κ' (fun e=>hne e.symm) h2]at hb'
    exact out κ' (fun e=>hne e.symm) h2 b (.inl hb) hb'
  ·by_cases h2:κ=κ2
   ·subst h2
    by_cases h3:κ'=κ1
    ·subst h3;exact d12 (fun e=>hne e.symm) b hb' hb
    ·rw[hsame κ' h3 (fun e=>hne e.symm)]at hb'
     exact out κ' h3 (fun e=>hne e.symm) b (.inr hb) hb'
   ·rw[hsame κ h1 h2]at hb
    by_cases h3:κ'=κ1
    ·subst h3;exact out κ h1 h2 b (.inl hb') hb
    ·by_cases h4:κ'=κ2
     ·subst h4;exact out κ h1 h2 b (.inr hb') hb
     ·rw[hsame κ' h3 h4]at hb'
      exact F.dis κ κ' b hne hb hb'
 ·intro κ b hb
  by_cases h1:κ=κ1
  ·subst h1;exact okn b (from1 b hb)
  ·by_cases h2:κ=κ2
   ·subst h2;exact okn b (from2 b hb)
   ·rw[hsame κ h1 h2]at hb
    obtain⟨x,y⟩:=F.ok κ b hb
    exact⟨Nat.lt_of_lt_of_le x hw,y⟩
theorem Ax.Rt(R:Ax E lam z fp hd st tm w){κ:Ky}{b:Nat}(h:b∈fp κ){nx:Nat}:¬(ctx E lam z nx).zb b:=by
 obtain⟨_,h2,h3⟩:=R.fps.ok κ b h
 rintro(⟨h4,h5⟩|h4)
 ·rcases h2 with h2|h2
  ·exact h5 h2
  ·omega
 ·exact h3 h4
theorem Ax.Ty(R:Ax E lam z fp hd st tm w){b:Nat}{nx:Nat}(h:(ctx E lam z nx).zb b):b<w.heap.size:=by
 rcases h with⟨h,_⟩|h
 ·exact Nat.lt_of_lt_of_le h R.size
 ·exact(R.z b h).1
theorem Ax.Se(R:Ax E lam z fp hd st tm w){κ:Ky}{w':World}(hm:Moves (·∈fp κ) w w'){nx:Nat}:∀b,(ctx E lam z nx).zb b→w'.heap[b]?=w.heap[b]?:=
 fun b hb=>hm.block b (R.Ty hb) (fun hmem=>R.Rt hmem hb)
theorem Ax.X6(R:Ax E lam z fp hd st tm w){κ:Ky}{w':World}(hm:Moves (·∈fp κ) w w'){κ':Ky}(h:κ'≠κ):∀b,b∈fp κ'→w'.heap[b]?=w.heap[b]?:=
 fun b hb=>hm.block b (R.fps.ok κ' b hb).1 (fun hmem=>R.fps.dis κ' κ b h hb hmem)
theorem Ax.Ny(R:Ax E lam z fp hd st tm w){κ:Ky}{w':World}(hm:Moves (·∈fp κ) w w'):∀b,b<E.w0.heap.size→¬E.f0 b→w'.heap[b]?=E.w0.heap[b]?:=by
 intro b hb hf0
 rw[hm.block b (Nat.lt_of_lt_of_le hb R.size) (fun hmem=>by
  rcases(R.fps.ok _ b hmem).2.1 with h1|h1
  ·exact hf0 h1
  ·omega)]
 exact R.frame b hb hf0
theorem Ax.key(R:Ax E lam z fp hd st tm w)(κ:Ky){w':World}(hm:Moves (·∈fp κ) w w'){hd':Hands}{st':St}{tm':Array Value}(hnx:st'.hp.next=st.hp.next)(ht:tm'.size=tm.size)
  (same:∀κ',κ'≠κ→∀C u f,AB C hd st tm u κ' f→AB C hd' st' tm' u κ' f) {f:List Nat} (h:AB (ctx E lam z st.hp.next) hd' st' tm' w' κ f) (hn:f.Nodup)
  (hf:∀b,b∈f→b∈fp κ∨(w.heap.size≤b∧b<w'.heap.size)):Ax E lam z (upk fp κ f) hd' st' tm' w':=by
 have hz:=R.Se hm (nx:=st.hp.next)
 have hC:=Ctx.Le.refl (ctx E lam z st.hp.next)
 refine⟨?_,?_,fun b hb=>⟨Nat.lt_of_lt_of_le (R.z b hb).1 hm.size,(R.z b hb).2⟩,R.Ny hm,hm.os.trans R.os,hm.tape.trans R.tape,hm.output.trans R.output,
  Nat.le_trans R.size hm.size,ht.trans R.tsz,by rw[hnx];exact R.base,R.i0⟩
 ·intro κ'
  rw[hnx]
  by_cases hk:κ'=κ
  ·subst hk;rw[A8];exact h
  ·rw[AO _ _ hk]
   exact same κ' hk _ _ _ ((R.keys κ').frame hC hz (R.X6 hm hk))
 ·refine R.fps.two R.size (fun b h=>(R.z b h).1) hm.size κ κ _ (fun κ' h1 _=>AO fp f h1) (by simpa using hn) (by simpa using hn) (fun h=>absurd rfl h) ?_ ?_
  all_goals
   intro b hb
   rw[A8]at hb
   rcases hf b hb with h1|h1
   ·exact .inl h1
   ·exact .inr (.inr h1)
theorem Ax.pass(R:Ax E lam z fp hd st tm w)(κ κ1:Ky)(hne:κ1≠κ){w':World}(hm:Moves (·∈fp κ) w w'){hd':Hands}{st':St}{tm':Array Value}(hnx:st'.hp.next=st.hp.next)(ht:tm'.size=tm.size)
  (same:∀κ',κ'≠κ→κ'≠κ1→∀C u f,AB C hd st tm u κ' f→AB C hd' st' tm' u κ' f) {f f1:List Nat} (h:AB (ctx E lam z st.hp.next) hd' st' tm' w' κ f)
  (h1:AB (ctx E lam z st.hp.next) hd' st' tm' w' κ1 f1) (hn:f.Nodup) (hn1:f1.Nodup) (hd1:∀b,b∈f→b∉f1)
  (hf:∀b,b∈f→b∈fp κ∨b∈fp κ1∨(w.heap.size≤b∧b<w'.heap.size)) (hf1:∀b,b∈f1→b∈fp κ∨b∈fp κ1∨(w.heap.size≤b∧b<w'.heap.size)):
  Ax E lam z (upk (upk fp κ f) κ1 f1) hd' st' tm' w':=by
 have hz:=R.Se hm (nx:=st.hp.next)
 have hC:=Ctx.Le.refl (ctx E lam z st.hp.next)
 refine⟨?_,?_,fun b hb=>⟨Nat.lt_of_lt_of_le (R.z b hb).1 hm.size,(R.z b hb).2⟩,R.Ny hm,hm.os.trans R.os,hm.tape.trans R.tape,hm.output.trans R.output,
  Nat.le_trans R.size hm.size,ht.trans R.tsz,by rw[hnx];exact R.base,R.i0⟩
 ·intro κ'
  rw[hnx]
  by_cases hk1:κ'=κ1
  ·subst hk1;rw[A8];exact h1
  ·rw[AO _ _ hk1]
   by_cases hk:κ'=κ
   ·subst hk;rw[A8];exact h
   ·rw[AO _ _ hk]
    exact same κ' hk hk1 _ _ _ ((R.keys κ').frame hC hz (R.X6 hm hk))
 ·refine R.fps.two R.size (fun b h=>(R.z b h).1) hm.size κ κ1 _ (fun κ' h2 h3=>by rw[AO _ _ h3,AO _ _ h2]) ?_ (by simpa using hn1) ?_ ?_ ?_
  ·rw[AO _ _ (fun e=>hne e.symm),A8];exact hn
  ·intro _ b hb;rw[AO _ _ (fun e=>hne e.symm),A8]at hb;rw[A8];exact hd1 b hb
  ·intro b hb;rw[AO _ _ (fun e=>hne e.symm),A8]at hb;exact hf b hb
  ·intro b hb;rw[A8]at hb;exact hf1 b hb
theorem E6{hd hd':Hands}{st:St}{tm:Array Value}{i:Nat}(h:∀j,j≠i→hd' j=hd j){κ:Ky}(hk:κ≠.h i){C:Ctx}{u:World}{f:List Nat}(hK:AB C hd st tm u κ f):AB C hd' st tm u κ f:=by
 cases κ with
 |s t=>exact hK
 |o o=>exact hK
 |h j=>have:j≠i:=fun e=>hk (by rw[e]);simpa only[AB,h j this]using hK
theorem Ax.turn(R:Ax E lam z fp hd st tm w)(i:Nat){w':World}(hm:Moves (·∈fp (.h i)) w w'){l:List AV}{m:List Value}{f:List Nat}
  (h:RVs (ctx E lam z st.hp.next) w' l m f) (hn:f.Nodup) (hf:∀b,b∈f→b∈fp (.h i)∨(w.heap.size≤b∧b<w'.heap.size)):
  Ax E lam z (upk fp (.h i) f) (upd hd i (l,m)) st tm w':=
 R.key (.h i) hm rfl rfl (fun κ' hk C u f' hK=>E6 (fun j hj=>by simp[upd,hj]) hk hK) (by simpa[AB,upd]using h) hn hf
theorem Ax.grow(R:Ax E lam z fp hd st tm w){w':World}(hm:Moves (fun _=>False) w w'):Ax E lam z fp hd st tm w':=by
 have hb:∀b,b<w.heap.size→w'.heap[b]?=w.heap[b]?:=fun b h=>hm.block b h id
 refine⟨fun κ=>(R.keys κ).frame (Ctx.Le.refl _) (fun b h=>hb b (R.Ty h)) (fun b h=>hb b (R.fps.ok κ b h).1),⟨R.fps.nod,R.fps.dis,fun κ b h=>⟨Nat.lt_of_lt_of_le (R.fps.ok κ b h).1 hm.size,(R.fps.ok κ b h).2⟩⟩,
  fun b h=>⟨Nat.lt_of_lt_of_le (R.z b h).1 hm.size,(R.z b h).2⟩,fun b h hf=>(hb b (Nat.lt_of_lt_of_le h R.size)).trans (R.frame b h hf),hm.os.trans R.os,hm.tape.trans R.tape,hm.output.trans R.output,
  Nat.le_trans R.size hm.size,R.tsz,R.base,R.i0⟩
theorem Ax.Jj(R:Ax E lam z fp hd st tm w)(i t:Nat)(x:TV)(v:Value)(ht:t<E.nt)(h:RTV (ctx E lam z st.hp.next) w x v (fp (.h i)))(vs:Nat→Nat)(hv:Nat):
  Ax E lam z (upk (upk fp (.h i) []) (.s t) (fp (.h i))) (upd hd i ([],[])) ⟨upd st.sl t x,st.hp,vs,hv⟩ (tm.setIfInBounds t v) w:=by
 refine R.pass (hd':=upd hd i ([],[])) (st':=⟨upd st.sl t x,st.hp,vs,hv⟩) (tm':=tm.setIfInBounds t v) (.h i) (.s t) (by simp) (Moves.refl _ w) rfl Array.size_setIfInBounds ?_ ?_ ?_ List.nodup_nil (R.fps.nod _) (fun _ h=>nomatch h) (fun _ h=>nomatch h) (fun b hb=>.inl hb)
 ·intro κ' h1 h2 C u f hK
  cases κ' with
  |s t'=>
   have hj:t'≠t:=fun e=>h2 (by rw[e])
   have e:(tm.setIfInBounds t v).getD t' undef=tm.getD t' undef:=by
    simp only[Array.getD_eq_getD_getElem?]
    rw[Array.getElem?_setIfInBounds_ne (fun e=>hj e.symm)]
   simp only[AB,upd,if_neg hj,e]
   exact hK
  |o o=>exact hK
  |h j=>
   have hj:j≠i:=fun e=>h1 (by rw[e])
   simpa only[AB,upd,if_neg hj]using hK
 ·simp only[AB,upd,if_true];exact .nil
 ·have:(tm.setIfInBounds t v).getD t undef=v:=by simp[R.tsz,ht]
  simp only[AB,upd,if_true,this]
  exact h
end
end Go.VS
namespace Go.VS
def vcells:SV→Value→List Value
 |.one _,v=>[v]
 |.agg _,.agg cs=>cs.toList
 |.agg _,_=>[]
theorem GH(l m:List AV)(v:Value):vcells (.agg l) v=vcells (.agg m) v:=by cases v<;>rfl
theorem RSV.cells{C:Ctx}{w:World}{s:SV}{v:Value}{f:List Nat}(h:RSV C w s v f):RVs C w s.cells (vcells s v) f:=by
 cases s with
 |one a=>exact RVs.one h
 |agg l=>obtain⟨cs,rfl,h⟩:=h;exact h
def AX(st:St)(tm:Array Value)(w:World)(lam:Nat→Nat):Root→Option Value
 |.slot t j=>match st.sl t with
  |.val true s=>(vcells s (tm.getD t undef))[j]?
  |_=>none
 |.obj o c=>w.cell? ⟨lam o,c,none⟩
def conc(st:St)(tm:Array Value)(w:World)(lam:Nat→Nat)(p:Place):Option Value:=(AX st tm w lam p.root).bind (AL w · p.path)
def Root.key:Root→Ky
 |.slot t _=>.s t
 |.obj o _=>.o o
theorem F7{α:Type}(l:List α)(j:Nat)(a b:α)(h:l[j]?=some a):l.set j b=l.take j++(b::l.drop (j+1)):=by
 have hlt:j<l.length:=by
  rcases Nat.lt_or_ge j l.length with h'|h'
  ·exact h'
  ·simp[List.getElem?_eq_none h']at h
 rw[List.set_eq_take_append_cons_drop,if_pos hlt]
theorem SV.Ed(s:SV)(j:Nat)(a b:AV)(h:s.cells[j]?=some a):(s.setCell j b).cells=s.cells.set j b:=by
 cases s with
 |one x=>
  cases j with
  |zero=>rfl
  |succ j=>simp[SV.cells]at h
 |agg l=>rfl
theorem RSV.setCell{C:Ctx}{w w':World}{s:SV}{v:Value}{f g:List Nat}(h:RSV C w s v f){j:Nat}{a b:AV}(hj:s.cells[j]?=some a)(hn:RVs C w' (s.cells.set j b) (vcells s v) g):
  RSV C w' (s.setCell j b) v g:=by
 cases s with
 |one x=>
  cases j with
  |zero=>obtain⟨u,hu,h'⟩:=RVs.Bk (show RVs C w' [b] [v] g from hn);cases hu;exact h'
  |succ j=>simp[SV.cells]at hj
 |agg l=>obtain⟨cs,rfl,h⟩:=h;exact⟨cs,rfl,hn⟩
theorem RVs.other{C:Ctx}{w:World}{xs:List AV}{m m1 m2:List Value}{u:Value}{f1 f2:List Nat}{si ti:Nat}{a2:AV}
  (hw:m=m1++u::m2) (hl:m1.length=si) (r1:RVs C w (xs.take si) m1 f1) (r2:RVs C w (xs.drop (si+1)) m2 f2) (hne:ti≠si) (hat:xs[ti]?=some a2):
  ∃u2 g,m[ti]?=some u2∧RV C w a2 u2 g∧∀x∈g,x∈f1∨x∈f2:=by
 rcases Nat.lt_or_ge ti si with hlt|hge
 ·have h1:(xs.take si)[ti]?=some a2:=by rw[List.getElem?_take,if_pos hlt];exact hat
  obtain⟨n1,v,n2,g1,ga,g2,rfl,hn,rfl,_,ra,_⟩:=r1.nth h1
  refine⟨v,ga,?_,ra,fun x hx=>.inl (by simp[hx])⟩
  rw[hw,List.append_assoc,List.getElem?_append_right (by omega)];simp[hn]
 ·have h1:(xs.drop (si+1))[ti -si -1]?=some a2:=by rw[List.getElem?_drop,show si+1+(ti -si -1)=ti from by omega];exact hat
  obtain⟨n1,v,n2,g1,ga,g2,rfl,hn,rfl,_,ra,_⟩:=r2.nth h1
  refine⟨v,ga,?_,ra,fun x hx=>.inr (by simp[hx])⟩
  rw[hw,List.getElem?_append_right (by omega),hl,show ti -si=(ti -si -1)+1 from by omega,List.getElem?_cons_succ,List.getElem?_append_right (by omega)];simp[hn]
section
variable{E:Env}{lam:Nat→Nat}{z:Nat→Prop}{fp:Ky→List Nat}{hd:Hands}{st:St}{tm:Array Value}{w:World}
theorem St.Dm{t j:Nat}{a:AV}(h:st.root (.slot t j)=some a):∃s,st.sl t=.val true s∧s.cells[j]?=some a:=by
 simp only[St.root,TV.cell]at h
 split at h
 ·rename_i s j' hs;exact⟨_,hs,h⟩
 ·cases h
theorem St.Di{o c:Nat}{a:AV}(h:st.root (.obj o c)=some a):∃l,st.hp.get o=some l∧l[c]?=some a:=by
 simp only[St.root]at h
 cases hg:st.hp.get o with
 |none=>simp[hg]at h
 |some l=>exact⟨l,rfl,by simpa[hg]using h⟩
theorem Ax.IK(R:Ax E lam z fp hd st tm w){r:Root}{a:AV}(h:st.root r=some a):
  ∃v f1 fa f2,AX st tm w lam r=some v∧RV (ctx E lam z st.hp.next) w a v fa∧fp r.key=f1++(fa++f2)∧
   (∀w' a' fa',(∀x,(ctx E lam z st.hp.next).zb x→w'.heap[x]?=w.heap[x]?)→(∀x,x∈f1∨x∈f2→w'.heap[x]?=w.heap[x]?)→RV (ctx E lam z st.hp.next) w' a' v fa'→
    AB (ctx E lam z st.hp.next) hd (st.Ar r a') tm w' r.key (f1++(fa'++f2)))∧
   (∀o c,r=.obj o c→lam o∈f1)∧
   ∀r' a2,r'.key=r.key→r'≠r→st.root r'=some a2→∃v2 g,AX st tm w lam r'=some v2∧RV (ctx E lam z st.hp.next) w a2 v2 g∧∀x∈g,x∈f1∨x∈f2:=by
 cases r with
 |slot t j=>
  obtain⟨s,hs,hj⟩:=St.Dm h
  have hr:=R.keys (.s t)
  simp only[AB,hs]at hr
  obtain⟨m1,v,m2,f1,fa,f2,hm,hl,hf,r1,ra,r2⟩:=(hr.1 rfl).cells.nth hj
  refine⟨v,f1,fa,f2,?_,ra,hf,?_,(fun _ _ e=>nomatch e),?_⟩
  ·simp only[AX,hs,hm]
   rw[List.getElem?_append_right (by omega)];simp[hl]
  rotate_left
  ·intro r' a2 hk hne hr'
   cases r' with
   |obj o c=>simp[Root.key]at hk
   |slot t' j'=>
    obtain rfl:t'=t:=by simpa[Root.key]using hk
    have hjj:j'≠j:=fun e=>hne (by rw[e])
    obtain⟨s',hs',hj'⟩:=St.Dm hr'
    rw[hs]at hs'
    obtain rfl:s=s':=by simpa using hs'
    obtain⟨u2,g,h1,h2,h3⟩:=RVs.other hm hl r1 r2 hjj hj'
    exact⟨u2,g,by simp only[AX,hs,h1],h2,h3⟩
  ·intro w' a' fa' hz hsame ha'
   simp only[AB,Root.key,St.Ar,upd,if_true,hs,TV.setCell]
   refine⟨fun _=>(hr.1 rfl).setCell hj ?_,fun hx=>(nomatch hx)⟩
   rw[F7 _ _ _ _ hj,hm]
   exact(r1.frame (Ctx.Le.refl _) hz (fun x hx=>hsame x (.inl hx))).append (RVs.cons _ _ _ _ _ _ ha' (r2.frame (Ctx.Le.refl _) hz (fun x hx=>hsame x (.inr hx))))
 |obj o c=>
  obtain⟨l,hg,hc⟩:=St.Di h
  obtain⟨h1,cs,e,f,h2,h3,h4⟩:=R.keys (.o o) l hg
  obtain⟨m1,v,m2,f1,fa,f2,hm,hl,hf,r1,ra,r2⟩:=h3.nth hc
  have h2':w.heap[lam o]?=some (.cells cs e (0,0)):=h2
  refine⟨v,lam o::f1,fa,f2,?_,ra,by show fp (.o o)=_;rw[h4,hf];rfl,?_,(fun o' c' e=>by cases e;simp),?_⟩
  ·simp only[AX]
   rw[AE h2',←Array.getElem?_toList,hm,List.getElem?_append_right (by omega)];simp[hl]
  rotate_left
  ·intro r' a2 hk hne hr'
   cases r' with
   |slot t j=>simp[Root.key]at hk
   |obj o' c'=>
    obtain rfl:o'=o:=by simpa[Root.key]using hk
    have hcc:c'≠c:=fun e=>hne (by rw[e])
    obtain⟨l',hg',hc'⟩:=St.Di hr'
    rw[hg]at hg'
    obtain rfl:l=l':=by simpa using hg'
    obtain⟨u2,g,h1,h2,h3⟩:=RVs.other hm hl r1 r2 hcc hc'
    refine⟨u2,g,?_,h2,fun x hx=>(h3 x hx).imp (fun h=>by simp[h]) id⟩
    simp only[AX]
    rw[AE h2',←Array.getElem?_toList];exact h1
  ·intro w' a' fa' hz hsame ha'
   simp only[AB,Root.key,St.Ar,hg]
   intro l' hl'
   simp only[Heap.set,upd,if_true,Option.some.injEq]at hl'
   subst hl'
   refine⟨h1,cs,e,f1++(fa'++f2),(hsame (lam o) (by simp)).trans h2',?_,rfl⟩
   rw[F7 _ _ _ _ hc,hm]
   exact(r1.frame (Ctx.Le.refl _) hz (fun x hx=>hsame x (by simp[hx]))).append (RVs.cons _ _ _ _ _ _ ha' (r2.frame (Ctx.Le.refl _) hz (fun x hx=>hsame x (.inr hx))))
theorem G9{r:Root}{a:AV}{κ:Ky}(hk:κ≠r.key){C:Ctx}{u:World}{f:List Nat}(h:AB C hd st tm u κ f):AB C hd (st.Ar r a) tm u κ f:=by
 cases r with
 |slot t j=>
  cases κ with
  |s t'=>
   have:t'≠t:=fun e=>hk (by rw[e];rfl)
   simpa only[AB,St.Ar,upd,if_neg this]using h
  |o o=>exact h
  |h i=>exact h
 |obj o c=>
  simp only[St.Ar]
  cases hg:st.hp.get o with
  |none=>exact h
  |some l=>
   cases κ with
   |s t=>exact h
   |h i=>exact h
   |o o'=>
    have:o'≠o:=fun e=>hk (by rw[e];rfl)
    simpa only[AB,Heap.set,upd,if_neg this]using h
theorem EI(r:Root)(a:AV):(st.Ar r a).hp.next=st.hp.next:=by
 cases r with
 |slot t j=>rfl
 |obj o c=>simp only[St.Ar];split<;>rfl
theorem F5{α:Type}{a b c:List α}(h:(a++(b++c)).Nodup):(a++c).Nodup∧b.Nodup∧∀x∈b,x∉a++c:=by
 rw[List.nodup_append]at h
 obtain⟨h1,h2,h3⟩:=h
 rw[List.nodup_append]at h2
 obtain⟨h4,h5,h6⟩:=h2
 refine⟨?_,h4,?_⟩
 ·rw[List.nodup_append];exact⟨h1,h5,fun x hx y hy=>h3 x hx y (by simp[hy])⟩
 ·intro x hx hx'
  rw[List.mem_append]at hx'
  rcases hx' with hx'|hx'
  ·exact h3 x hx' x (by simp[hx]) rfl
  ·exact h6 x hx x hx' rfl
theorem Ax.take(R:Ax E lam z fp hd st tm w)(i:Nat)(p:Place){b:AV}(h:st.at p=some b):
  ∃u fp',conc st tm w lam p=some u∧Ax E lam z fp' (upd hd i ([b],[u])) (st.putAt p .dead) tm w∧∀j,j≠i→fp' (.h j)=fp (.h j):=by
 simp only[St.at]at h
 cases ha:st.root p.root with
 |none=>simp[ha]at h
 |some a=>
  rw[ha]at h
  simp only[Option.bind_some]at h
  obtain⟨v,f1,fa,f2,hv,ra,hf,hset,_,_⟩:=R.IK ha
  obtain⟨u,g1,fb,g2,hc,rb,hfa,hput⟩:=RV.lens p.path ra h
  have hdead:=hset w _ _ (fun _ _=>rfl) (fun _ _=>rfl) (hput .dead [] (.dead u rb.EJ))
  have hnd:((f1++g1)++(fb++(g2++f2))).Nodup:=by
   have:=R.fps.nod p.root.key
   rw[hf,hfa]at this
   simpa using this
  obtain⟨n1,n2,n3⟩:=F5 hnd
  have hkh:(Ky.h i)≠p.root.key:=by cases p.root<;>simp[Root.key]
  have hput':st.putAt p .dead=st.Ar p.root (a.put p.path .dead):=by simp only[St.putAt,ha]
  refine⟨u,upk (upk fp p.root.key ((f1++g1)++(g2++f2))) (.h i) fb,by simp[conc,hv,hc],?_,
   fun j hj=>by rw[AO _ _ (by simpa using hj),AO _ _ (by cases p.root<;>simp[Root.key])]⟩
  rw[hput']
  refine R.pass p.root.key (.h i) hkh (Moves.refl _ w) (EI _ _) rfl ?_ ?_ ?_ n1 n2 ?_ ?_ ?_
  ·intro κ' h1 h2 C x f hK
   exact E6 (fun j hj=>by simp[upd,hj]) h2 (G9 h1 hK)
  ·have:=E6 (hd:=hd) (hd':=upd hd i ([b],[u])) (i:=i) (fun j hj=>by simp[upd,hj]) (fun e=>hkh e.symm) hdead
   simpa using this
  ·simp only[AB,upd,if_true];exact RVs.one rb
  ·intro x hx hx';exact n3 x hx' hx
  ·intro x hx;refine .inl ?_;rw[hf,hfa];simp only[List.mem_append]at hx⊢;rcases hx with(h|h)|h|h<;>simp[h]
  ·intro x hx;refine .inl ?_;rw[hf,hfa];simp[hx]
theorem Dh{r r':Root}{a:AV}:AX (st.Ar r a) tm w lam r'=AX st tm w lam r':=by
 cases r' with
 |obj o c=>rfl
 |slot t j=>
  cases r with
  |obj o c=>simp only[St.Ar];split<;>rfl
  |slot t0 j0=>
   simp only[AX,St.Ar,upd]
   by_cases h:t=t0
   ·subst h
    simp only[if_true]
    cases hs:st.sl t with
    |val g s=>
     simp only[TV.setCell]
     cases g with
     |false=>rfl
     |true=>
      cases s with
      |one a=>cases j0<;>rfl
      |agg l=>simp only[SV.setCell];rw[GH]
    |tup l=>simp only[TV.setCell]
    |dead=>simp only[TV.setCell]
   ·simp only[if_neg h]
theorem Fh{q:Place}{v:Value}(h:AX st tm w lam q.root=some v):conc st tm w lam q=AL w v q.path:=by simp[conc,h]
theorem Fk{r:Root}{loc:Addr}{v':Value}(h:∀o c,r=.obj o c→loc≠⟨lam o,c,none⟩):AX st tm (w.setCell loc v') lam r=AX st tm w lam r:=by
 cases r with
 |slot t j=>rfl
 |obj o c=>exact World.cell?_setCell_other _ _ _ _ (h o c rfl)
theorem Ax.TE(R:Ax E lam z fp hd st tm w){κ:Ky}{loc:Addr}{v':Value}(hl:loc.block∈fp κ){r:Root}{a:AV}{q:Place}{k:Nat}{xs:List (List AV)}
  (hq:st.at q=some (.sl .own k xs)) (hne:q.root.key≠κ):conc (st.Ar r a) tm (w.setCell loc v') lam q=conc st tm w lam q:=by
 simp only[St.at]at hq
 cases hr:st.root q.root with
 |none=>simp[hr]at hq
 |some a2=>
  rw[hr]at hq
  simp only[Option.bind_some]at hq
  obtain⟨v2,g1,ga,g2,h1,h2,h3,_,_,_⟩:=R.IK hr
  have hnotin:∀x,x∈fp q.root.key→x≠loc.block:=fun x hx e=>R.fps.dis q.root.key κ x hne hx (by rw[e];exact hl)
  have h4:AX st tm (w.setCell loc v') lam q.root=some v2:=by
   rw[Fk]
   ·exact h1
   ·intro o c ho e
    obtain⟨l,hg,_⟩:=St.Di (by rw[←ho];exact hr)
    obtain⟨_,cs,e',f',_,_,h7⟩:=R.keys (.o o) l hg
    exact hnotin (lam o) (by rw[ho];show _∈fp (.o o);rw[h7];simp[ctx]) (by rw[e])
  rw[Fh (v:=v2) (by rw[Dh];exact h4),Fh h1]
  exact C7 q.path h2 hq (fun x hx=>DM w loc v' x (hnotin x (by rw[h3];simp[hx])))
theorem Ax.MD(R:Ax E lam z fp hd st tm w)(i:Nat)(p:Place){b b':AV}{v':Value}(hh:hd i=([b'],[v']))(hat:st.at p=some b)(hmem:p.path≠[]):
  ∃loc u fp',(AX st tm w lam p.root).bind (NL w · p.path)=some loc∧loc.spot=none∧w.cell? loc=some u∧w.frozen? loc=false∧
   Ax E lam z fp' (upd hd i ([],[])) (st.putAt p b') tm (w.setCell loc v')∧(∀j,j≠i→fp' (.h j)=fp (.h j))∧
   ∀q k xs,st.at q=some (.sl .own k xs)→(q.root=p.root→Aside p.path q.path)→conc (st.putAt p b') tm (w.setCell loc v') lam q=conc st tm w lam q:=by
 simp only[St.at]at hat
 cases ha:st.root p.root with
 |none=>simp[ha]at hat
 |some a=>
  rw[ha]at hat
  simp only[Option.bind_some]at hat
  obtain⟨v,f1,fa,f2,hv,ra,hf,hset,hlam,hoth⟩:=R.IK ha
  have hkh:(Ky.h i)≠p.root.key:=by cases p.root<;>simp[Root.key]
  have hput':st.putAt p b'=st.Ar p.root (a.put p.path b'):=by simp only[St.putAt,ha]
  have rbs:RVs (ctx E lam z st.hp.next) w [b'] [v'] (fp (.h i)):=by have:=R.keys (.h i);simpa only[AB,hh]using this
  obtain⟨v1,hv1,rb⟩:=RVs.Bk rbs
  obtain rfl:v1=v':=by simpa using hv1.symm
  have hnd:(f1++(fa++f2)).Nodup:=by rw[←hf];exact R.fps.nod _
  have hbh:∀x,x∈f1++(fa++f2)→x∉fp (.h i):=fun x hx=>R.fps.dis p.root.key (.h i) x (fun e=>hkh e.symm) (by rw[hf];exact hx)
  have hzb:∀x,(ctx E lam z st.hp.next).zb x→x∉f1++(fa++f2):=fun x hx hm=>R.Rt (κ:=p.root.key) (by rw[hf];exact hm) hx
  obtain⟨loc,u,g1,fb,g2,cs,e,hloc,hspot,hcell,hbl,rbb,hfa,hin,hput⟩:=RV.TR p.path hmem ra hat
  have hlfa:loc.block∈fa:=by rw[hfa];simp[hin]
  have hlk:loc.block∈fp p.root.key:=by rw[hf];simp[hlfa]
  have hnda:=(F5 hnd).2.1
  have hout:∀x,x∈f1∨x∈f2→x≠loc.block:=fun x hx e=>(F5 hnd).2.2 loc.block hlfa (by rw[←e];simpa using hx)
  obtain⟨hnew,hcon⟩:=hput hnda (fun x hx hm=>hzb x hx (by simp[hm])) b' v1 (fp (.h i)) rb (hbh _ (by simp[hlfa]))
  have hfz:w.frozen? loc=false:=by
   have:loc=⟨loc.block,loc.off,none⟩:=by cases loc;simp_all
   rw[this];exact frozen_of_row w _ _ cs e hbl
  have hsetc:=DM w loc v1
  have hroot:∀o c,p.root=.obj o c→loc≠⟨lam o,c,none⟩:=fun o c ho el=>hout (lam o) (.inl (hlam o c ho)) (by rw[el])
  have hm:Moves (·∈fp p.root.key) w (w.setCell loc v1):=⟨rfl,rfl,rfl,by simp,fun x _ hx=>hsetc x (fun e=>hx (by rw[e];exact hlk))⟩
  have hkey:=hset (w.setCell loc v1) _ _ (R.Se hm) (fun x hx=>hsetc x (hout x hx)) hnew
  have hndn:(f1++(g1++(fb++g2)++f2)).Nodup:=by rw[hfa]at hnd;simpa using hnd
  have hn':(f1++((g1++(fp (.h i)++g2))++f2)).Nodup:=by
   have e1:(f1++g1++(fb++(g2++f2))).Nodup:=by simpa using hndn
   obtain⟨n1,_,_⟩:=F5 e1
   have e2:(f1++((g1++(fp (.h i)++g2))++f2))=(f1++g1)++(fp (.h i)++(g2++f2)):=by simp
   rw[e2,List.nodup_append]
   rw[List.nodup_append]at n1
   refine⟨n1.1,?_,?_⟩
   ·rw[List.nodup_append]
    exact⟨R.fps.nod _,n1.2.1,fun x hx y hy e=>hbh y (by rw[hfa];simp only[List.mem_append]at hy⊢;rcases hy with hy|hy<;>simp[hy]) (e▸hx)⟩
   ·intro x hx y hy e
    rw[List.mem_append]at hy
    rcases hy with hy|hy
    ·exact hbh x (by rw[hfa];simp only[List.mem_append]at hx⊢;rcases hx with hx|hx<;>simp[hx]) (e▸hy)
    ·exact n1.2.2 x hx y hy e
  refine⟨loc,u,upk (upk fp p.root.key (f1++((g1++(fp (.h i)++g2))++f2))) (.h i) [],?_,hspot,hcell,hfz,?_,?_,?_⟩
  ·rw[hv];exact hloc
  ·rw[hput']
   refine R.pass (hd':=upd hd i ([],[])) (st':=st.Ar p.root (a.put p.path b')) p.root.key (.h i) hkh hm (EI _ _) rfl ?_ ?_ ?_ hn' List.nodup_nil (fun _ _ h=>nomatch h) ?_ (fun _ h=>nomatch h)
   ·intro κ' h1 h2 C x f hK
    exact E6 (fun j hj=>by simp[upd,hj]) h2 (G9 h1 hK)
   ·exact E6 (hd:=hd) (i:=i) (fun j hj=>by simp[upd,hj]) (fun e=>hkh e.symm) hkey
   ·simp only[AB,upd,if_true];exact .nil
   ·intro x hx
    simp only[List.mem_append]at hx
    rw[hf,hfa]
    rcases hx with h|(h|h|h)|h
    ·exact .inl (by simp[h])
    ·exact .inl (by simp[h])
    ·exact .inr (.inl h)
    ·exact .inl (by simp[h])
    ·exact .inl (by simp[h])
  ·intro j hj
   rw[AO _ _ (by simpa using hj),AO _ _ (by cases p.root<;>simp[Root.key])]
  ·intro q k xs hq hasd
   rw[hput']
   by_cases hkey':q.root.key=p.root.key
   ·by_cases hrr:q.root=p.root
    ·have hq':=hq
     simp only[St.at,hrr,ha,Option.bind_some]at hq'
     have h4:AX st tm (w.setCell loc v1) lam q.root=some v:=by rw[hrr,Fk hroot];exact hv
     rw[Fh (v:=v) (by rw[Dh];exact h4),Fh (v:=v) (by rw[hrr];exact hv)]
     exact hcon q.path k xs (hasd hrr) hq'
    ·have hq':=hq
     simp only[St.at]at hq'
     cases hr:st.root q.root with
     |none=>simp[hr]at hq'
     |some a2=>
      rw[hr]at hq'
      simp only[Option.bind_some]at hq'
      obtain⟨v2,g,h1,h2,h3⟩:=hoth q.root a2 hkey' hrr hr
      have h4:AX st tm (w.setCell loc v1) lam q.root=some v2:=by
       rw[Fk]
       ·exact h1
       ·intro o c ho el
        have hk2:p.root.key=.o o:=by rw[←hkey',ho];rfl
        have:∃c',p.root=.obj o c':=by
         revert hk2;cases p.root<;>simp[Root.key]
        obtain⟨c',hc'⟩:=this
        exact hout (lam o) (.inl (hlam o c' hc')) (by rw[el])
      rw[Fh (v:=v2) (by rw[Dh];exact h4),Fh h1]
      exact C7 q.path h2 hq' (fun x hx=>hsetc x (hout x (h3 x hx)))
   ·exact R.TE hlk hq hkey'
theorem Ax.putObj(R:Ax E lam z fp hd st tm w)(i o c:Nat){b b':AV}{v':Value}(hh:hd i=([b'],[v']))(hat:st.root (.obj o c)=some b):
  ∃u fp',w.cell? ⟨lam o,c,none⟩=some u∧w.frozen? ⟨lam o,c,none⟩=false∧
   Ax E lam z fp' (upd hd i ([],[])) (st.Ar (.obj o c) b') tm (w.setCell ⟨lam o,c,none⟩ v')∧(∀j,j≠i→fp' (.h j)=fp (.h j))∧
   ∀q k xs,st.at q=some (.sl .own k xs)→q.root≠.obj o c→conc (st.Ar (.obj o c) b') tm (w.setCell ⟨lam o,c,none⟩ v') lam q=conc st tm w lam q:=by
 obtain⟨l,hg,hc⟩:=St.Di hat
 obtain⟨h1,cs,e,f,h2,h3,h4⟩:=R.keys (.o o) l hg
 obtain⟨m1,v,m2,f1,fa,f2,hm,hl,hf,r1,ra,r2⟩:=h3.nth hc
 have h2':w.heap[lam o]?=some (.cells cs e (0,0)):=h2
 have h4':fp (.o o)=lam o::(f1++(fa++f2)):=by rw[h4,hf];rfl
 have hcell:cs[c]?=some v:=by rw[←Array.getElem?_toList,hm,List.getElem?_append_right (by omega)];simp[hl]
 have rbs:RVs (ctx E lam z st.hp.next) w [b'] [v'] (fp (.h i)):=by have:=R.keys (.h i);simpa only[AB,hh]using this
 obtain⟨v1,hv1,rb⟩:=RVs.Bk rbs
 obtain rfl:v1=v':=by simpa using hv1.symm
 have hnd:(lam o::(f1++(fa++f2))).Nodup:=by rw[←h4'];exact R.fps.nod _
 have hlk:lam o∈fp (.o o):=by rw[h4'];simp
 have hsetc:=DM w ⟨lam o,c,none⟩ v1
 have hmv:Moves (·∈fp (.o o)) w (w.setCell ⟨lam o,c,none⟩ v1):=⟨rfl,rfl,rfl,by simp,fun x _ hx=>hsetc x (fun e=>hx (by rw[e];exact hlk))⟩
 have hout:∀x,x∈f1∨x∈fa∨x∈f2→x≠lam o:=fun x hx e=>(List.nodup_cons.1 hnd).1 (by rw[←e];simpa using hx)
 have hbh:∀x,x∈fp (.o o)→x∉fp (.h i):=fun x hx=>R.fps.dis (.o o) (.h i) x (by simp) hx
 have hn':(lam o::(f1++(fp (.h i)++f2))).Nodup:=by
  have e1:((lam o::f1)++(fa++f2)).Nodup:=by simpa using hnd
  obtain⟨n1,_,_⟩:=F5 e1
  have e2:(lam o::(f1++(fp (.h i)++f2)))=(lam o::f1)++(fp (.h i)++f2):=by simp
  rw[e2,List.nodup_append]
  rw[List.nodup_append]at n1
  refine⟨n1.1,?_,?_⟩
  ·rw[List.nodup_append]
   exact⟨R.fps.nod _,n1.2.1,fun x hx y hy e=>hbh y (by rw[h4'];simp[hy]) (e▸hx)⟩
  ·intro x hx y hy e
   rw[List.mem_append]at hy
   rcases hy with hy|hy
   ·exact hbh x (by rw[h4'];simp only[List.mem_cons,List.mem_append]at hx⊢;rcases hx with hx|hx<;>simp[hx]) (e▸hy)
   ·exact n1.2.2 x hx y hy e
 refine⟨v,upk (upk fp (.o o) (lam o::(f1++(fp (.h i)++f2)))) (.h i) [],by rw[AE h2'];exact hcell,frozen_of_row w _ _ cs e h2',?_,?_,?_⟩
 ·refine R.pass (hd':=upd hd i ([],[])) (st':=st.Ar (.obj o c) b') (.o o) (.h i) (by simp) hmv (EI _ _) rfl ?_ ?_ ?_ hn' List.nodup_nil (fun _ _ h=>nomatch h) ?_ (fun _ h=>nomatch h)
  ·intro κ' h1 h2 C x f hK
   exact E6 (fun j hj=>by simp[upd,hj]) h2 (G9 h1 hK)
  ·simp only[AB,St.Ar,hg]
   intro l' hl'
   simp only[Heap.set,upd,if_true,Option.some.injEq]at hl'
   subst hl'
   refine⟨h1,cs.setIfInBounds c v1,e,f1++(fp (.h i)++f2),heap_setCell_same w _ c cs e v1 h2',?_,rfl⟩
   rw[F7 _ _ _ _ hc,Array.toList_setIfInBounds,hm,←hl,Kf]
   have hzs:=R.Se hmv (nx:=st.hp.next)
   rw[hl]
   exact(r1.frame (Ctx.Le.refl _) hzs (fun x hx=>hsetc x (hout x (.inl hx)))).append
    (RVs.cons _ _ _ _ _ _ (rb.frame (Ctx.Le.refl _) hzs (fun x hx=>hsetc x (fun e=>hbh x (e▸hlk) hx)))
     (r2.frame (Ctx.Le.refl _) hzs (fun x hx=>hsetc x (hout x (.inr (.inr hx))))))
  ·simp only[AB,upd,if_true];exact .nil
  ·intro x hx
   simp only[List.mem_cons,List.mem_append]at hx
   rw[h4']
   rcases hx with h|h|h|h
   ·exact .inl (by simp[h])
   ·exact .inl (by simp[h])
   ·exact .inr (.inl h)
   ·exact .inl (by simp[h])
 ·intro j hj
  rw[AO _ _ (by simpa using hj),AO _ _ (by simp)]
 ·intro q k xs hq hne
  by_cases hkey':q.root.key=.o o
  ·simp only[St.at]at hq
   cases hr:st.root q.root with
   |none=>simp[hr]at hq
   |some a2=>
    rw[hr]at hq
    simp only[Option.bind_some]at hq
    obtain⟨c',hc'⟩:∃c',q.root=.obj o c':=by revert hkey';cases q.root<;>simp[Root.key]
    have hcc:c'≠c:=fun e=>hne (by rw[hc',e])
    rw[hc']at hr
    obtain⟨l2,hg2,hl2⟩:=St.Di hr
    obtain rfl:l=l2:=by rw[hg]at hg2;simpa using hg2
    obtain⟨u2,g,k1,k2,k3⟩:=RVs.other hm hl r1 r2 hcc hl2
    have h5:AX st tm w lam q.root=some u2:=by
     rw[hc'];simp only[AX];rw[AE h2',←Array.getElem?_toList];exact k1
    have h6:AX st tm (w.setCell ⟨lam o,c,none⟩ v1) lam q.root=some u2:=by
     rw[Fk]
     ·exact h5
     ·intro o' c'' ho el
      rw[hc']at ho
      cases ho
      simp only[Addr.mk.injEq,true_and,and_true]at el
      exact hcc el.symm
    rw[Fh (v:=u2) (by rw[Dh];exact h6),Fh h5]
    exact C7 q.path k2 hq (fun x hx=>hsetc x (hout x ((k3 x hx).imp id .inr)))
  ·exact R.TE (κ:=.o o) hlk hq hkey'
end
end Go.VS
namespace Go
def Op.quiet:Op→Bool
 |.move _|.pick ..|.build ..|.nilCheck _|.binOp ..|.unOp ..|.convert ..|.slice ..|.fieldAddr ..|.field ..|.indexAddr ..|.index ..|.makeFunc ..=>true
 |.call c=>match c.callee with
  |.builtin .len|.builtin .min|.builtin .max=>true
  |_=>false
 |_=>false
def Op.still:Op→Bool
 |.load ..=>true
 |op=>op.quiet
def TW(P:Program):Op→Bool
 |.convert s _ _=>match P.underlying s with
  |some (.slice _)=>true
  |_=>false
 |_=>false
def Hb(P:Program)(op:Op):Bool:=op.quiet&&!TW P op
end Go
namespace Go.VS
inductive GO
 |done
 |first(g:GOp) (rest:GO)
 |alt (g:GOp) (rest more:GO)
 |stop
 deriving Inhabited
inductive Hk
 |skip
 |region (ops:List GOp) (draw:Bool)
 |draw (ts:List GO)
 |seq (a b:Hk)
 |cond (c:Opd) (thn els:Hk)
 |block (id:Nat) (body:Hk)
 |loop (body:Hk)
 |exit (id:Nat)
 |ret
 deriving Inhabited
section
variable(P:Program)
def AA:Operand→Option Opd
 |.tmp t=>some (.t t)
 |.const v=>if v.oneCell' then some (.c v)else none
 |.func f=>(P.funcs[f]?).map fun fn=>.f fn.name
 |.global _=>none
def Dr:List Operand→Option (List Opd)
 |[]=>some []
 |x::r=>match AA P x,Dr r with
  |some y,some l=>some (y::l)
  |_,_=>none
def FA:Option Operand→Option (Option Opd)
 |none=>some none
 |some x=>(AA P x).map some
def sizeOf?(t:TypeId):Option Nat:=(P.info? t).map (·.size)
def bytesOf?(t:TypeId):Option Nat:=(P.info? t).map (·.bytes)
def zeroOf?(t:TypeId):Option (List Value):=match(P.info? t).bind (·.zero)with
 |some z=>if z.cells.toList.all Value.oneCell' then some z.cells.toList else none
 |none=>none
def CY?(t:TypeId):Option Bool:=match P.underlying t with
 |some (.struct _)=>some true
 |some (.array _ _)=>some true
 |some _=>some false
 |none=>none
def partsOf(place:Nat→Option (Nat×Nat))(len:Nat):List (Nat×Operand)→Option (List (Nat×Nat×Opd))
 |[]=>some []
 |(i,x)::r=>match place i,AA P x,partsOf place len r with
  |some (off,n),some y,some l=>if off+n≤len then some ((off,n,y)::l)else none
  |_,_,_=>none
def I7(len:Nat):List (Nat×Operand)→Option (List (Nat×Opd))
 |[]=>some []
 |(i,x)::r=>match AA P x,I7 len r with
  |some y,some l=>if i<len then some ((i,y)::l)else none
  |_,_=>none
def HG(flat:TypeId→Option (List CK)):Nat→List Field→Option (List CK)
 |_,[]=>some []
 |off,f::fs=>if f.name != "_" &&f.offset==off then match flat f.type with
   |some n=>if sizeOf? P f.type=some n.length then(HG flat (off+n.length) fs).map (n++·)else none
   |none=>none
  else none
def E5:Nat→TypeId→Option (List CK)
 |0,_=>none
 |d+1,t=>match P.underlying t with
  |some (.int _)=>some [.int]
  |some .string=>some [.str]
  |some .bool=>some [.bool]
  |some (.struct fs)=>if P.stoodInHeld t then none else HG P (E5 d) 0 fs.toList
  |some (.array n e)=>match E5 d e with
   |some k=>if sizeOf? P e=some k.length then some (List.replicate n k).flatten else none
   |none=>none
  |_=>none
def Mr(op:BinOp)(t:TypeId)(x y:Operand):Option AOp:=
 match AA P x,AA P y,P.underlying t with
 |some a,some b,some (.int _)=>some (.bin op a b)
 |some a,some b,some .string=>some (.bin op a b)
 |some a,some b,some .bool=>if op=.eql∨op=.neq then some (.eqB (op==.neq) a b)else none
 |some a,some b,some (.struct _)=>if(op=.eql∨op=.neq)∧P.eqGuardType P.depth t=false then(E5 P 9 t).map fun ks=>.eqA (op==.neq) ks a b else none
 |some a,some b,some (.array _ _)=>if(op=.eql∨op=.neq)∧P.eqGuardType P.depth t=false then(E5 P 9 t).map fun ks=>.eqA (op==.neq) ks a b else none
 |_,_,_=>none
def G7(src dst:TypeId)(x:Operand):Option AOp:=
 match AA P x,P.underlying src,P.underlying dst with
 |some a,some (.int _),some (.int k)=>some (.conv (.toInt k) a)
 |some a,some .string,some .string=>some (.conv .ident a)
 |some a,some (.int _),some .string=>some (.conv .ofInt a)
 |some a,some (.slice e),some .string=>match P.underlying e with
  |some (.int .u8)=>some (.conv .bytesToStr a)
  |_=>none
 |_,_,_=>none
def Sw(c:Call):Option AOp:=
 match c.callee with
 |.value (.func f)=>match P.funcs[f]?,Dr P c.args.toList with
  |some fn,some l=>if fn.name != "runtime.NumGoroutine" &&fn.body.isSome then some (.call fn.name l)else none
  |_,_=>none
 |.value (.tmp t)=>(Dr P c.args.toList).map (.callv (.t t))
 |.builtin .len=>match c.args.toList,c.argTypes.toList with
  |[x],[t]=>match AA P x,P.underlying t with
   |some a,some (.slice _)=>some (.lenK a)
   |some a,some .string=>some (.lenS a)
   |some _,some (.array n _)=>some (.lenC n)
   |_,_=>none
  |_,_=>none
 |.builtin .append=>match c.args.toList,c.argTypes.toList with
  |[s,x],[t,u]=>match AA P s,AA P x,P.underlying t,P.underlying u with
   |some a,some b,some (.slice e),some (.slice _)=>match sizeOf? P e,bytesOf? P e,zeroOf? P e with
    |some k,some by_,some z=>if z.length=k∧0<k∧0<by_ then some (.app k by_ a b)else none
    |_,_,_=>none
   |_,_,_,_=>none
  |_,_=>none
 |.builtin .min=>match c.args.toList with
  |[x,y]=>match AA P x,AA P y with
   |some a,some b=>some (.mm false a b)
   |_,_=>none
  |_=>none
 |.builtin .max=>match c.args.toList with
  |[x,y]=>match AA P x,AA P y with
   |some a,some b=>some (.mm true a b)
   |_,_=>none
  |_=>none
 |_=>none
def Lf(o:Oper):Option AOp:=
 match o.op with
 |.move x=>(AA P x).map .mv
 |.assign x=>(AA P x).map .asg
 |.pick c a b=>match AA P c,AA P a,AA P b with
  |some c,some a,some b=>some (.pick c a b)
  |_,_,_=>none
 |.alloc e=>(zeroOf? P e).map .alloc
 |.box _ x=>(AA P x).map .box
 |.build t parts=>match zeroOf? P t,P.underlying t with
  |some z,some (.struct fs)=>match fs.toList.mapM (fun f=>(P.info? f.type).map fun i=>(f.offset,i.size))with
   |some places=>(partsOf P (places.toArray[·]?) z.length parts.toList).map (.build z)
   |none=>none
  |some z,some (.array _ e)=>match sizeOf? P e with
   |some k=>(partsOf P (fun i=>some (i*k,k)) z.length parts.toList).map (.build z)
   |none=>none
  |_,_=>none
 |.buildSlice t len parts=>match P.underlying t with
  |some (.slice e)=>match sizeOf? P e,zeroOf? P e with
   |some k,some z=>if z.length=k∧0<k∧len*k≤2^24 then(I7 P len parts.toList).map (.buildSl k z len)else none
   |_,_=>none
  |_=>none
 |.load t x=>match CY? P t,sizeOf? P t,AA P x with
  |some agg,some n,some a=>if agg=true∨n=1 then some (.load agg n a)else none
  |_,_,_=>none
 |.store t a x=>match sizeOf? P t,AA P a,AA P x with
  |some n,some a,some b=>if 0<n∧o.dst.isNone then some (.store n a b)else none
  |_,_,_=>none
 |.nilCheck x=>(AA P x).map .nilc
 |.binOp op t x y _=>Mr P op t x y
 |.unOp op _ x=>(AA P x).map (.un op)
 |.convert s d x=>G7 P s d x
 |.makeSlice t l c=>match P.underlying t with
  |some (.slice e)=>match sizeOf? P e,bytesOf? P e,zeroOf? P e,AA P l,AA P c with
   |some k,some by_,some z,some l,some c=>if z.length=k∧0<k then some (.mkSl k by_ z l c)else none
   |_,_,_,_,_=>none
  |_=>none
 |.slice t x lo hi none=>match P.underlying t,AA P x,FA P lo,FA P hi with
  |some .string,some a,some lo,some hi=>some (.slS a lo hi)
  |some (.slice e),some a,some lo,some hi=>(sizeOf? P e).map fun k=>.slK k a lo hi
  |_,_,_,_=>none
 |.fieldAddr s x f=>match P.underlying s,AA P x with
  |some (.struct fs),some a=>match fs[f]?with
   |some fd=>match sizeOf? P fd.type with
    |some n=>if n≠0 then some (.fAddr fd.offset a)else none
    |none=>none
   |none=>none
  |_,_=>none
 |.field t x f=>match P.underlying t,AA P x with
  |some (.struct fs),some a=>match fs[f]?with
   |some fd=>match CY? P fd.type,sizeOf? P fd.type with
    |some agg,some n=>if agg=true∨n=1 then some (.fld agg fd.offset n a)else none
    |_,_=>none
   |none=>none
  |_,_=>none
 |.indexAddr t x i=>match P.underlying t,AA P x,AA P i with
  |some (.slice e),some a,some i=>(sizeOf? P e).map fun k=>.ixA k a i
  |some (.array n e),some a,some i=>(sizeOf? P e).map fun k=>.ixAr n k a i
  |_,_,_=>none
 |.index t x i=>match P.underlying t,AA P x,AA P i with
  |some .string,some a,some i=>some (.ixS a i)
  |some (.array n e),some a,some i=>match CY? P e,sizeOf? P e with
   |some agg,some k=>if agg=true∨k=1 then some (.ixV agg n k a i)else none
   |_,_=>none
  |_,_,_=>none
 |.extract x i=>(AA P x).map fun a=>.ext a i
 |.makeFunc (.func f) first caps=>match P.funcs[f]?,Dr P first.toList,Dr P caps.toList with
  |some fn,some [],some l=>some (.mkf (fn.name,false) l)
  |some fn,some l,some []=>some (.mkf (fn.name,true) l)
  |_,_,_=>none
 |.call c=>Sw P c
 |.makeInterface t x=>match P.underlying t,AA P x with
  |some (.int _),some a=>some (.mkI t a)
  |_,_=>none
 |.panic x=>(AA P x).map .panic
 |_=>none
def guardOf(ops:Array Oper):Option (Nat×Bool)→Option (Option (Nat×Bool))
 |none=>some none
 |some (j,want)=>match(ops[j]?).bind (·.dst)with
  |some t=>some (some (t,want))
  |none=>none
def H6(nt:Nat)(ops:Array Oper)(o:Oper):Option GOp:=
 match Lf P o,guardOf ops o.guard with
 |some op,some g=>match o.dst with
  |some d=>if d<nt then some ⟨some d,op,g⟩else none
  |none=>some ⟨none,op,g⟩
 |_,_=>none
def L7(nt:Nat)(ops:Array Oper):List Oper→Option (List GOp)
 |[]=>some []
 |o::r=>match H6 P nt ops o,L7 nt ops r with
  |some g,some l=>some (g::l)
  |_,_=>none
end
section
variable(md:Region.Mode)(ops:Array Oper)
def I6(i:Nat)(B:List Nat):List Nat:=(List.range ops.size).filter fun j=>match ops[j]?with
 |some oj=>oj.after.any fun e=>Region.binds md e&&(e.on==i||B.contains e.on)
 |none=>false
def blocked(i:Nat):Nat→List Nat
 |0=>[]
 |n+1=>I6 md ops i (blocked i n)
def X4(listed:Array Bool)(i:Nat):Bool:=
 match ops[i]?with
 |none=>false
 |some oi=>
  (blocked md ops i 6).all (fun j=>!listed.getD j true)&&(List.range ops.size).all fun j=>j==i||listed.getD j true||(blocked md ops i 6).contains j||match ops[j]?with
   |some oj=>oi.apart ops oj&&oj.op.still
   |none=>true
def P3(P:Program)(listed:Array Bool)(i:Nat):Bool:=
 match ops[i]?with
 |some o=>(Hb P o.op&&Region.free md ops listed i)||(o.op.still&&X4 md ops listed i)
 |none=>false
def PV(mk:Nat→Option (GOp×GO)):List Nat→Option GO
 |[]=>some .stop
 |i::r=>match mk i,PV mk r with
  |some (g,t),some m=>some (.alt g t m)
  |_,_=>none
def EV(P:Program)(nt:Nat):Nat→Array Bool→Option GO
 |0,listed=>if Region.ready md ops listed=[]then some .done else none
 |fuel+1,listed=>
  if Region.ready md ops listed=[]then some .done
  else
   let mk:=fun i=>match(ops[i]?).bind (H6 P nt ops),EV P nt fuel (listed.setIfInBounds i true)with
    |some g,some t=>some (g,t)
    |_,_=>none
   match(Region.ready md ops listed).find? (P3 md ops P listed)with
   |some i=>(mk i).map fun(g,t)=>.first g t
   |none=>PV mk (Region.ready md ops listed)
end
section
variable(P:Program)
def N9(nt:Nat)(ops:Array Oper)(draw:Bool):Option Hk:=
 if draw then
  if Region.noSelect ops then
   if P.follows .mixedOrders||!Region.departs ops then(EV .any ops P nt ops.size (Array.replicate ops.size false)).map fun t=>.draw [t]
   else match EV .text ops P nt ops.size (Array.replicate ops.size false),EV .gc ops P nt ops.size (Array.replicate ops.size false)with
    |some t,some u=>some (.draw [t,u])
    |_,_=>none
  else none
 else(L7 P nt ops ops.toList).map fun l=>.region l false
def codeOf(nt:Nat):Code→Option Hk
 |.skip=>some .skip
 |.region _ ops draw=>N9 P nt ops draw
 |.seq a b=>match codeOf nt a,codeOf nt b with
  |some a,some b=>some (.seq a b)
  |_,_=>none
 |.cond c t e=>match AA P c,codeOf nt t,codeOf nt e with
  |some c,some t,some e=>some (.cond c t e)
  |_,_,_=>none
 |.block id b=>(codeOf nt b).map (.block id)
 |.loop b=>(codeOf nt b).map .loop
 |.exit id=>some (.exit id)
 |.ret=>some .ret
 |_=>none
end
end Go.VS
namespace Go.VS
def Win(k:Nat)(v0:Value)(lo n:Nat)(u:Value):Prop:=
 (v0=.slice none 0 0∧u=.slice none 0 0∧lo=0∧n=0)∨
 ∃b off len cap off' cap',v0=.slice (some ⟨b,off,none⟩) len cap∧u=.slice (some ⟨b,off',none⟩) n cap'∧cap'+lo=cap∧n≤cap'∧off'+cap'*k≤off+cap*k∧(cap'≠0→off'=off+lo*k)
def AR(st:St)(tm:Array Value)(w:World)(lam:Nat→Nat):AV→Value→Prop
 |.ref p ver k lo n,u=>ver≤st.ver p.root∧(ver=st.ver p.root→∃xs v0,st.at p=some (.sl .own k xs)∧conc st tm w lam p=some v0∧Win k v0 lo n u)
 |.adr p ver k i c,u=>ver≤st.ver p.root∧(ver=st.ver p.root→∃xs b off len cap,st.at p=some (.sl .own k xs)∧conc st tm w lam p=some (.slice (some ⟨b,off,none⟩) len cap)∧u=.pointer (some ⟨b,off+i*k+c,none⟩))
 |_,_=>True
def CS(st:St)(tm:Array Value)(w:World)(lam:Nat→Nat)(s:SV)(v:Value):Prop:=
 ∀(j:Nat) (a:AV) (u:Value),s.cells[j]?=some a→(vcells s v)[j]?=some u→AR st tm w lam a u
def Refs(st:St)(tm:Array Value)(w:World)(lam:Nat→Nat):Prop:=
 ∀t s,st.sl t=.val true s→CS st tm w lam s (tm.getD t undef)
def Rel(E:Env)(st:St)(tm:Array Value)(w:World):Prop:=
 ∃lam z fp,Ax E lam z fp Am st tm w∧Refs st tm w lam
section
variable{E:Env}{lam:Nat→Nat}{z:Nat→Prop}{fp:Ky→List Nat}{hd:Hands}{st:St}{tm:Array Value}{w:World}
theorem Ax.V4(R:Ax E lam z fp Am st tm w)(i:Nat):fp (.h i)=[]:=by
 have:=R.keys (.h i)
 simp only[AB,Am]at this
 cases hf:fp (.h i)with
 |nil=>rfl
 |cons a l=>rw[hf]at this;cases this
theorem RV.D0{C:Ctx}{w:World}{a:AV}{v:Value}{f:List Nat}(h:RV C w a v f)(ha:a.Br=false):f=[]:=by
 cases h with
 |own=>simp[AV.Br]at ha
 |_=>rfl
theorem RVs.D0{C:Ctx}{w:World}:∀{l:List AV} {m:List Value} {f:List Nat},RVs C w l m f→l.any AV.Br=false→f=[]
 |_,_,_,.nil,_=>rfl
 |_,_,_,.cons a v f l m g h t,ha=>by
  simp only[List.any_cons,Bool.or_eq_false_iff]at ha
  rw[h.D0 ha.1,RVs.D0 t ha.2];rfl
def seen(mk:Nat→Nat→AV):AV→AV
 |.sl .own k xs=>mk k xs.length
 |a=>a
theorem RS{mk:Nat→Nat→AV}{a:AV}(h:a.Br=false):seen mk a=a:=by
 cases a with
 |sl τ k xs=>cases τ<;>simp_all [AV.Br,seen]
 |_=>rfl
theorem Lk(mk:Nat→Nat→Nat→AV):∀(l:List AV) (j i:Nat),(Ec mk j l)[i]?=(l[i]?).map (seen (mk (j+i)))
 |[],_,_=>by simp[Ec]
 |a::l,j,0=>by
  simp only[Ec,List.getElem?_cons_zero,Option.map_some,Nat.add_zero,Option.some.injEq]
  cases a with
  |sl τ k xs=>cases τ<;>rfl
  |_=>rfl
 |a::l,j,i+1=>by
  simp only[Ec,List.getElem?_cons_succ]
  rw[Lk mk l (j+1) i,show j+1+i=j+(i+1)from by omega]
theorem Pr{C:Ctx}{w:World}{k:Nat}{xs:List (List AV)}{v:Value}{f:List Nat}(h:RV C w (.sl .own k xs) v f):
  (v=.slice none 0 0∧xs=[])∨∃b off cap,v=.slice (some ⟨b,off,none⟩) xs.length cap∧xs.length≤cap∧cap≤maxLen:=by
 cases h with
 |slNil=>exact .inl ⟨rfl,rfl⟩
 |shr _ _ _ _ _ _ _ _ _ ht=>exact absurd rfl ht
 |shrE _ _ _ _ ht=>exact absurd rfl ht
 |own k xs b off cap cs e f hb hs hc hm=>exact .inr ⟨b,off,cap,rfl,hc,hm⟩
theorem Win.self{C:Ctx}{w:World}{k:Nat}{xs:List (List AV)}{v:Value}{f:List Nat}(h:RV C w (.sl .own k xs) v f):Win k v 0 xs.length v:=by
 rcases Pr h with⟨rfl,rfl⟩|⟨b,off,cap,rfl,hc,_⟩
 ·exact .inl ⟨rfl,rfl,rfl,rfl⟩
 ·exact .inr ⟨b,off,_,cap,off,cap,rfl,rfl,rfl,hc,Nat.le_refl _,fun _=>by omega⟩
theorem Qn{C:Ctx}{w:World}{a:AV}{v:Value}{f:List Nat}(h:RV C w a v f){mk:Nat→Nat→AV}(hmk:∀k n,∃p ver lo,mk k n=.ref p ver k lo n):RV C w (seen mk a) v []:=by
 cases a with
 |sl τ k xs=>
  cases τ with
  |own=>
   obtain⟨p,ver,lo,e⟩:=hmk k xs.length
   simp only[seen,e]
   rcases Pr h with⟨rfl,rfl⟩|⟨b,off,cap,rfl,_⟩<;>exact .ref _ _ _ _ _ _ _
  |imm=>have:=h.D0 rfl;subst this;exact h
  |brw=>have:=h.D0 rfl;subst this;exact h
 |_=>have:=h.D0 rfl;subst this;exact h
theorem Lj{C:Ctx}{w:World}{mk:Nat→Nat→Nat→AV}(hmk:∀j k n,∃p ver lo,mk j k n=.ref p ver k lo n):∀{l:List AV} {m:List Value} {f:List Nat} (j:Nat),RVs C w l m f→RVs C w (Ec mk j l) m []
 |_,_,_,_,.nil=>.nil
 |_,_,_,j,.cons a v f l m g h t=>by
  have h1:=Qn h (mk:=mk j) (hmk j)
  have h2:=Lj hmk (j+1) t
  have e:Ec mk j (a::l)=seen (mk j) a::Ec mk (j+1) l:=by
   cases a with
   |sl τ k xs=>cases τ<;>rfl
   |_=>rfl
  rw[e]
  exact .cons _ _ [] _ _ [] h1 h2
theorem AR.NZ{a:AV}{u:Value}(h1:∀p v k lo n,a≠.ref p v k lo n)(h2:∀p v k i c,a≠.adr p v k i c):AR st tm w lam a u:=by
 cases a with
 |ref p v k lo n=>exact absurd rfl (h1 p v k lo n)
 |adr p v k i c=>exact absurd rfl (h2 p v k i c)
 |_=>exact trivial
theorem XA(R:Ax E lam z fp hd st tm w)(F:Refs st tm w lam){n:Nat}{s:SV}(hs:st.sl n=.val true s):
  RSV (ctx E lam z st.hp.next) w (st.peek n s) (tm.getD n undef) []∧CS st tm w lam (st.peek n s) (tm.getD n undef):=by
 have hk:=R.keys (.s n)
 simp only[AB,hs]at hk
 have hrs:=hk.1 rfl
 have hF:=F n s hs
 have newref:∀j k xs u,s.cells[j]?=some (.sl .own k xs)→(vcells s (tm.getD n undef))[j]?=some u→AR st tm w lam (.ref ⟨.slot n j,[]⟩ (st.vs n) k 0 xs.length) u:=by
  intro j k xs u hj hu
  refine⟨Nat.le_refl _,fun _=>?_⟩
  obtain⟨m1,v,m2,f1,fa,f2,hm,hl,hf,r1,ra,r2⟩:=hrs.cells.nth hj
  have huv:u=v:=by
   rw[hm,List.getElem?_append_right (by omega)]at hu
   simpa[hl]using hu.symm
  subst huv
  refine⟨xs,u,?_,?_,Win.self ra⟩
  ·simp only[St.at,St.root,hs,TV.cell,hj,AV.at,Option.bind_some]
  ·simp only[conc,AX,hs,hu,AL,Option.bind_some]
 cases s with
 |one a=>
  refine⟨?_,?_⟩
  ·have:st.peek n (.one a)=.one (seen (fun k len=>.ref ⟨.slot n 0,[]⟩ (st.vs n) k 0 len) a):=by
    cases a with
    |sl τ k xs=>cases τ<;>rfl
    |_=>rfl
   rw[this]
   exact Qn hrs (fun k n=>⟨_,_,_,rfl⟩)
  ·intro j a' u hj hu
   cases j with
   |succ j=>simp[St.peek,SV.cells]at hj
   |zero=>
    simp only[St.peek,SV.cells,List.getElem?_cons_zero,Option.some.injEq]at hj
    simp only[St.peek,vcells,List.getElem?_cons_zero,Option.some.injEq]at hu
    cases ho:a.Br with
    |false=>
     have:a'=a:=by
      rw[←hj]
      cases a with
      |sl τ k xs=>cases τ<;>simp_all [AV.Br]
      |_=>rfl
     subst this
     exact hF 0 a' u rfl (by simp[vcells,hu])
    |true=>
     cases a with
     |sl τ k xs=>
      cases τ with
      |own=>
       simp only at hj
       subst hj
       exact newref 0 k xs u rfl (by simp[vcells,hu])
      |_=>simp[AV.Br]at ho
     |_=>simp[AV.Br]at ho
 |agg l=>
  obtain⟨cs,hv,hr⟩:=hrs
  refine⟨⟨cs,hv,Lj (fun j k n=>⟨_,_,_,rfl⟩) 0 hr⟩,?_⟩
  intro j a' u hj hu
  simp only[St.peek,SV.cells]at hj
  rw[Lk,Nat.zero_add]at hj
  cases hlj:l[j]?with
  |none=>simp[hlj]at hj
  |some a=>
   simp only[hlj,Option.map_some,Option.some.injEq]at hj
   have hu':(vcells (.agg l) (tm.getD n undef))[j]?=some u:=by rw[GH l _];exact hu
   cases ho:a.Br with
   |false=>
    rw[RS ho]at hj
    subst hj
    exact hF j a u hlj hu'
   |true=>
    cases a with
    |sl τ k xs=>
     cases τ with
     |own=>
      simp only[seen]at hj
      subst hj
      exact newref j k xs u hlj hu'
     |_=>simp[AV.Br]at ho
    |_=>simp[AV.Br]at ho
theorem CW(R:Ax E lam z fp hd st tm w)(F:Refs st tm w lam){g:Bool}(hg:g=true){o:Operand}{x:Opd}(ho:AA E.P o=some x){s:SV}(h:(st.use g x).holds (·=s))(ds:List Deferred):
  RSV (ctx E lam z st.hp.next) w s (Act.eval ⟨tm,ds⟩ o) []∧CS st tm w lam s (Act.eval ⟨tm,ds⟩ o):=by
 subst hg
 cases o with
 |tmp n=>
  simp only[AA,Option.some.injEq]at ho
  subst ho
  simp only[St.use]at h
  cases hs:st.sl n with
  |val b s'=>
   simp only[hs]at h
   rw[M.Aa,M.Aj]at h
   obtain⟨hb,h⟩:=h
   have hb:=hb trivial
   subst hb
   change True∧_ at h
   obtain⟨_,rfl⟩:=h
   exact XA R F hs
  |tup l=>simp[hs,M.fail,M.holds]at h
  |dead=>simp[hs,M.fail,M.holds]at h
 |const v=>
  simp only[AA]at ho
  split at ho
  case isFalse=>cases ho
  rename_i hv
  simp only[Option.some.injEq]at ho
  subst ho
  change True∧_ at h
  obtain⟨_,rfl⟩:=h
  refine⟨.lit v hv,?_⟩
  intro j a u hj _
  cases j with
  |zero=>simp[SV.cells]at hj;subst hj;exact trivial
  |succ j=>simp[SV.cells]at hj
 |global n=>simp[AA]at ho
 |func f=>
  simp only[AA]at ho
  cases hf:E.P.funcs[f]?with
  |none=>simp[hf]at ho
  |some fn=>
   simp only[hf,Option.map_some,Option.some.injEq]at ho
   subst ho
   change True∧_ at h
   obtain⟨_,rfl⟩:=h
   refine⟨?_,?_⟩
   ·exact RV.clo (fn.name,false) [] f fn [] hf rfl .nil
   ·intro j a u hj _
    cases j with
    |zero=>simp[SV.cells]at hj;subst hj;exact trivial
    |succ j=>simp[SV.cells]at hj
theorem E4(R:Ax E lam z fp hd st tm w){w':World}{q:Place}{k:Nat}{xs:List (List AV)}(hq:st.at q=some (.sl .own k xs))(hb:∀b,b∈fp q.root.key→w'.heap[b]?=w.heap[b]?):
  conc st tm w' lam q=conc st tm w lam q:=by
 simp only[St.at]at hq
 cases hr:st.root q.root with
 |none=>simp[hr]at hq
 |some a2=>
  rw[hr]at hq
  simp only[Option.bind_some]at hq
  obtain⟨v2,g1,ga,g2,h1,h2,h3,_,h4,_⟩:=R.IK hr
  have h5:AX st tm w' lam q.root=some v2:=by
   revert h1
   cases hroot:q.root with
   |slot t j=>exact id
   |obj o c=>
    intro h1
    have:w'.heap[lam o]?=w.heap[lam o]?:=hb _ (by rw[h3];simp[h4 o c hroot])
    simp only[AX,World.cell?,this]at h1⊢
    exact h1
  rw[Fh h5,Fh h1]
  exact C7 q.path h2 hq (fun x hx=>hb x (by rw[h3];simp[hx]))
theorem AR.grow(R:Ax E lam z fp hd st tm w){w':World}(hm:Moves (fun _=>False) w w'){a:AV}{u:Value}(h:AR st tm w lam a u):AR st tm w' lam a u:=by
 have hb:∀κ,∀b,b∈fp κ→w'.heap[b]?=w.heap[b]?:=fun κ b hb=>hm.block b (R.fps.ok κ b hb).1 id
 cases a with
 |ref p ver k lo n=>
  refine⟨h.1,fun hv=>?_⟩
  obtain⟨xs,v0,h1,h2,h3⟩:=h.2 hv
  exact⟨xs,v0,h1,by rw[E4 R h1 (hb _)];exact h2,h3⟩
 |adr p ver k i c=>
  refine⟨h.1,fun hv=>?_⟩
  obtain⟨xs,b,off,len,cap,h1,h2,h3⟩:=h.2 hv
  exact⟨xs,b,off,len,cap,h1,by rw[E4 R h1 (hb _)];exact h2,h3⟩
 |_=>exact trivial
theorem OD{t j:Nat}{path:List Stp}{k:Nat}{xs:List (List AV)}(h:st.at ⟨.slot t j,path⟩=some (.sl .own k xs)):(st.sl t).BV=true:=by
 simp only[St.at]at h
 cases hr:st.root (.slot t j)with
 |none=>simp[hr]at h
 |some a=>
  rw[hr]at h
  simp only[Option.bind_some]at h
  obtain⟨s,hs,hj⟩:=St.Dm hr
  have ha:a.Br=true:=by
   cases path with
   |nil=>simp only[AV.at,Option.some.injEq]at h;subst h;rfl
   |cons s r=>
    cases a with
    |sl τ k xs=>cases τ<;>first|rfl|simp[AV.at]at h
    |_=>simp[AV.at]at h
  simp only[hs,TV.BV,SV.BV,List.any_eq_true]
  exact⟨a,List.mem_of_getElem? hj,ha⟩
theorem AR.set{d:Nat}{x:TV}{v:Value}{a:AV}{u:Value}(h:AR st tm w lam a u):AR (st.set d x) (tm.setIfInBounds d v) w lam a u:=by
 have main:∀(p:Place) (ver:Nat),ver≤st.ver p.root→ver≤(st.set d x).ver p.root:=by
  intro p ver hv
  cases hr:p.root with
  |obj o c=>rw[hr]at hv;exact hv
  |slot t j=>
   rw[hr]at hv
   simp only[St.ver,St.set]at hv⊢
   split
   ·simp only[upd];split
    ·rename_i e;subst e;exact Nat.le_succ_of_le hv
    ·exact hv
   ·exact hv
 have live:∀(p:Place) (ver k:Nat) (xs:List (List AV)),ver≤st.ver p.root→ver=(st.set d x).ver p.root→(ver=st.ver p.root→st.at p=some (.sl .own k xs))→
   ver=st.ver p.root∧(st.at p=some (.sl .own k xs)→(st.set d x).at p=st.at p∧conc (st.set d x) (tm.setIfInBounds d v) w lam p=conc st tm w lam p):=by
  intro p ver k xs hv he hat
  obtain⟨r,path⟩:=p
  cases r with
  |obj o c=>exact⟨he,fun _=>⟨rfl,rfl⟩⟩
  |slot t j=>
   simp only[St.ver,St.set]at hv he hat⊢
   by_cases htd:t=d
   ·subst htd
    exfalso
    split at he
    ·simp only[upd,if_true]at he;omega
    ·rename_i hno
     exact hno (OD (hat he))
   ·have e1:ver=st.vs t:=by
     split at he
     ·simpa[upd,htd]using he
     ·exact he
    refine⟨e1,fun _=>⟨?_,?_⟩⟩
    ·simp only[St.at,St.root,upd,if_neg htd]
    ·have e:(tm.setIfInBounds d v).getD t undef=tm.getD t undef:=by
      simp only[Array.getD_eq_getD_getElem?]
      rw[Array.getElem?_setIfInBounds_ne (fun e=>htd e.symm)]
     simp only[conc,AX,upd,if_neg htd,e]
 cases a with
 |ref p ver k lo n=>
  refine⟨main p ver h.1,fun hv=>?_⟩
  by_cases he:ver=st.ver p.root
  ·obtain⟨xs,v0,h1,h2,h3⟩:=h.2 he
   obtain⟨_,hl⟩:=live p ver k xs h.1 hv (fun _=>h1)
   obtain⟨h4,h5⟩:=hl h1
   exact⟨xs,v0,h4.trans h1,h5.trans h2,h3⟩
  ·exact absurd (live p ver k [] h.1 hv (fun e=>absurd e he)).1 he
 |adr p ver k i c=>
  refine⟨main p ver h.1,fun hv=>?_⟩
  by_cases he:ver=st.ver p.root
  ·obtain⟨xs,b,off,len,cap,h1,h2,h3⟩:=h.2 he
   obtain⟨_,hl⟩:=live p ver k xs h.1 hv (fun _=>h1)
   obtain⟨h4,h5⟩:=hl h1
   exact⟨xs,b,off,len,cap,h4.trans h1,h5.trans h2,h3⟩
  ·exact absurd (live p ver k [] h.1 hv (fun e=>absurd e he)).1 he
 |_=>exact trivial
theorem CS.set{d:Nat}{x:TV}{v:Value}{s:SV}{u:Value}(h:CS st tm w lam s u):CS (st.set d x) (tm.setIfInBounds d v) w lam s u:=
 fun j a y hj hy=>(h j a y hj hy).set
theorem Refs.set(F:Refs st tm w lam){d:Nat}{s:SV}{v:Value}(hd:d<tm.size)(hn:CS st tm w lam s v):Refs (st.set d (.val true s)) (tm.setIfInBounds d v) w lam:=by
 intro t s' hs
 by_cases ht:t=d
 ·subst ht
  simp only[St.set,upd,if_true,TV.val.injEq,true_and]at hs
  subst hs
  have:(tm.setIfInBounds t v).getD t undef=v:=by simp[hd]
  rw[this]
  exact hn.set
 ·have e:(tm.setIfInBounds d v).getD t undef=tm.getD t undef:=by
   simp only[Array.getD_eq_getD_getElem?]
   rw[Array.getElem?_setIfInBounds_ne (fun e=>ht e.symm)]
  simp only[St.set,upd,if_neg ht]at hs
  rw[e]
  exact(F t s' hs).set
theorem Refs.He(F:Refs st tm w lam){d:Nat}{x:TV}{v:Value}(hx:∀s,x≠.val true s):Refs (st.set d x) (tm.setIfInBounds d v) w lam:=by
 intro t s' hs
 by_cases ht:t=d
 ·subst ht
  simp only[St.set,upd,if_true]at hs
  exact absurd hs (hx s')
 ·have e:(tm.setIfInBounds d v).getD t undef=tm.getD t undef:=by
   simp only[Array.getD_eq_getD_getElem?]
   rw[Array.getElem?_setIfInBounds_ne (fun e=>ht e.symm)]
  simp only[St.set,upd,if_neg ht]at hs
  rw[e]
  exact(F t s' hs).set
theorem Refs.grow(R:Ax E lam z fp hd st tm w)(F:Refs st tm w lam){w':World}(hm:Moves (fun _=>False) w w'):Refs st tm w' lam:=
 fun t s hs j a u hj hu=>(F t s hs j a u hj hu).grow R hm
def ROk(E:Env)(lam:Nat→Nat)(z:Nat→Prop)(st:St)(tm:Array Value)(w:World)(s:SV)(v:Value)(w':World):Prop:=
 ∃f,Moves (fun _=>False) w w'∧RSV (ctx E lam z st.hp.next) w' s v f∧f.Nodup∧(∀b,b∈f→w.heap.size≤b∧b<w'.heap.size)∧CS st tm w lam s v
theorem H9(i:Nat)(x:List AV×List Value):upd (upd Am i x) i ([],[])=Am:=by
 funext j;simp only[upd,Am];split<;>rfl
theorem Rel.result(R:Ax E lam z fp Am st tm w)(F:Refs st tm w lam){s:SV}{v:Value}{w':World}(h:ROk E lam z st tm w s v w'){d:Nat}(hd:d<E.nt):
  Rel E (st.set d (.val true s)) (tm.setIfInBounds d v) w':=by
 obtain⟨f,hm,hs,hn,hf,hr⟩:=h
 have R1:=R.turn 0 (hm.mono (fun _ h=>h.elim)) hs.cells hn (fun b hb=>.inr (hf b hb))
 have R2:=R1.Jj 0 d (.val true s) v hd (by rw[A8];exact⟨fun _=>hs,fun h=>nomatch h⟩) (if(st.sl d).BV then upd st.vs d (st.vs d+1)else st.vs) st.hv
 rw[H9]at R2
 exact⟨lam,z,_,R2,(F.grow R hm).set (by rw[R.tsz];exact hd) (fun j a u hj hu=>(hr j a u hj hu).grow R hm)⟩
theorem Rel.off(h:Rel E st tm w){d:Nat}(hd:d<E.nt)(s:SV):Rel E (st.set d (.val false s)) (tm.setIfInBounds d undef) w:=by
 obtain⟨lam,z,fp,R,F⟩:=h
 have R2:=R.Jj 0 d (.val false s) undef hd ⟨(fun h=>nomatch h),fun _=>⟨rfl,R.V4 0⟩⟩ (if(st.sl d).BV then upd st.vs d (st.vs d+1)else st.vs) st.hv
 have e:upd Am 0 ([],[])=Am:=by funext j;simp[upd,Am]
 rw[e]at R2
 exact⟨lam,z,_,R2,F.He (by intro s h;cases h)⟩
end
end Go.VS
namespace Go.VS
section
variable{E:Env}{lam:Nat→Nat}{z:Nat→Prop}{fp:Ky→List Nat}{hd:Hands}{st:St}{tm:Array Value}{w:World}{ds:List Deferred}
def OpR(E:Env)(lam:Nat→Nat)(z:Nat→Prop)(st:St)(tm:Array Value)(ds:List Deferred)(w:World)(o:Oper)(s:SV):Prop:=
 ∃v w',(execOp (Act.eval ⟨tm,ds⟩) o).run E.P w=.ok (.value v) w'∧ROk E lam z st tm w s v w'∧(Hb E.P o.op=true→∀u,(execOp (Act.eval ⟨tm,ds⟩) o).run E.P u=.ok (.value v) u)∧(o.op.still=true→w'=w)
theorem OpR.quiet{o:Oper}{s:SV}{v:Value}(h:∀u,(execOp (Act.eval ⟨tm,ds⟩) o).run E.P u=.ok (.value v) u)(hr:ROk E lam z st tm w s v w):OpR E lam z st tm ds w o s:=⟨v,w,h w,hr,fun _=>h,fun _=>rfl⟩
theorem ROk.same{s:SV}{v:Value}(h:RSV (ctx E lam z st.hp.next) w s v [])(hr:CS st tm w lam s v):ROk E lam z st tm w s v w:=
 ⟨[],Moves.refl _ _,h,List.nodup_nil,(fun _ h=>nomatch h),hr⟩
theorem CS.one{a:AV}{v:Value}(h:AR st tm w lam a v):CS st tm w lam (.one a) v:=by
 intro j a' u hj hu
 cases j with
 |zero=>
  simp only[SV.cells,List.getElem?_cons_zero,Option.some.injEq]at hj
  simp only[vcells,List.getElem?_cons_zero,Option.some.injEq]at hu
  subst hj;subst hu;exact h
 |succ j=>simp[SV.cells]at hj
theorem CS.Bk{a:AV}{v:Value}(h:CS st tm w lam (.one a) v):AR st tm w lam a v:=h 0 a v rfl rfl
theorem ROk.one{a:AV}{v:Value}(h:RV (ctx E lam z st.hp.next) w a v [])(hr:AR st tm w lam a v):ROk E lam z st tm w (.one a) v w:=.same h (.one hr)
theorem ROk.lit{v:Value}(h:v.oneCell'=true):ROk E lam z st tm w (.one (.lit v)) v w:=.one (.lit v h) trivial
theorem Ba{g:Bool}{x:Opd}{K:AV→Prop}(h:(st.BX g x).holds K):∃a,(st.use g x).holds (·=.one a)∧K a:=by
 unfold St.BX at h
 rw[M.Aa,M.Aw]at h
 obtain⟨s,h1,h2⟩:=h
 cases s with
 |one a=>rw[M.Ad]at h2;exact⟨a,h1,h2⟩
 |agg l=>exact h2.elim
theorem Eu{g:Bool}{x:Opd}{K:Int→Prop}(h:(st.EX g x).holds K):∃k n,(st.use g x).holds (·=.one (.lit (.int k n)))∧K n:=by
 unfold St.EX at h
 rw[M.Aa,M.Aw]at h
 obtain⟨s,h1,h2⟩:=h
 split at h2
 ·rw[M.Ad]at h2;exact⟨_,_,h1,h2⟩
 ·exact h2.elim
theorem E8{g:Bool}{x:Opd}{K:Bool→Prop}(h:(st.Fm g x).holds K):∃b,(st.use g x).holds (·=.one (.lit (.bool b)))∧K b:=by
 unfold St.Fm at h
 rw[M.Aa,M.Aw]at h
 obtain⟨s,h1,h2⟩:=h
 split at h2
 ·rw[M.Ad]at h2;exact⟨_,h1,h2⟩
 ·exact h2.elim
theorem FV{C:Ctx}{v u:Value}{f:List Nat}(h:RV C w (.lit u) v f):v=u∧u.oneCell'=true:=by cases h;exact⟨rfl,‹_›⟩
theorem Bz(R:Ax E lam z fp hd st tm w)(F:Refs st tm w lam){g:Bool}(hg:g=true){o:Operand}{x:Opd}(ho:AA E.P o=some x){u:Value}(h:(st.use g x).holds (·=.one (.lit u))):
  Act.eval ⟨tm,ds⟩ o=u:=(FV (CW R F hg ho h ds).1).1
theorem ZK(R:Ax E lam z fp hd st tm w)(F:Refs st tm w lam){o:Oper}{x:Operand}{a:Opd}(ho:o.op=.move x)(ha:AA E.P x=some a){s:SV}{g:Bool}(hg:g=true)
  (h:(st.use g a).holds (·=s)):OpR E lam z st tm ds w o s:=by
 obtain⟨h1,h2⟩:=CW R F hg ha h ds
 exact OpR.quiet (v:=Act.eval ⟨tm,ds⟩ x) (fun w=>by simp[execOp,ho]) (.same h1 h2)
theorem YE(R:Ax E lam z fp hd st tm w)(F:Refs st tm w lam){o:Oper}{c a b:Operand}{c' a' b':Opd}(ho:o.op=.pick c a b)(hc:AA E.P c=some c')(ha:AA E.P a=some a')(hb:AA E.P b=some b')
  {s:SV} {g:Bool} (hg:g=true) (h:(st.A5 g (.pick c' a' b')).holds (·=s)):OpR E lam z st tm ds w o s:=by
 subst hg
 simp only[St.A5,M.Aa,Bool.true_and]at h
 obtain⟨cb,h1,h⟩:=E8 h
 obtain⟨x,h2,h⟩:=E8 h
 obtain⟨y,h3,h⟩:=E8 h
 rw[M.Ad]at h
 subst h
 have e1:=Bz (ds:=ds) R F rfl hc h1
 cases cb with
 |true=>
  have e2:=Bz (ds:=ds) R F rfl ha h2
  exact OpR.quiet (v:=.bool x) (fun w=>by simp[execOp,ho,e1,e2,asBool]) (ROk.lit rfl)
 |false=>
  have e2:=Bz (ds:=ds) R F (by rfl) hb h3
  exact OpR.quiet (v:=.bool y) (fun w=>by simp[execOp,ho,e1,e2,asBool]) (ROk.lit rfl)
theorem Zg(R:Ax E lam z fp hd st tm w)(F:Refs st tm w lam){o:Oper}{t:TypeId}{x:Operand}{a:Opd}{k:IntKind}(ho:o.op=.makeInterface t x)(ht:E.P.underlying t=some (.int k))(ha:AA E.P x=some a){s:SV}{g:Bool}(hg:g=true)
  (h:(st.A5 g (.mkI t a)).holds (·=s)):OpR E lam z st tm ds w o s:=by
 simp only[St.A5,M.Aa]at h
 obtain⟨c,h1,h⟩:=Ba h
 split at h
 case h_2=>exact h.elim
 rename_i u
 have e:=Bz (ds:=ds) R F hg ha h1
 rw[M.Ad]at h
 subst h
 exact OpR.quiet (v:=_) (fun w=>by simp[execOp,ho,e,Instr.makeInterface,run_underlying ht]) (ROk.lit rfl)
theorem ZL(R:Ax E lam z fp hd st tm w)(F:Refs st tm w lam){o:Oper}{op:UnOp}{t:TypeId}{x:Operand}{a:Opd}(ho:o.op=.unOp op t x)(ha:AA E.P x=some a){s:SV}{g:Bool}(hg:g=true)
  (h:(st.A5 g (.un op a)).holds (·=s)):OpR E lam z st tm ds w o s:=by
 simp only[St.A5,M.Aa]at h
 obtain⟨c,h1,h⟩:=Ba h
 split at h
 case h_2=>exact h.elim
 rename_i u
 have e:=Bz (ds:=ds) R F hg ha h1
 rw[M.Aa,M.Ca]at h
 obtain⟨v,hv,h⟩:=h
 rw[M.Ad]at h
 subst h
 unfold unV at hv
 split at hv
 ·rename_i k n
  split at hv
  ·cases hv
   exact OpR.quiet (v:=_) (fun w=>by simp[execOp,ho,e,Op.unary,Op.intArith]) (ROk.lit rfl)
  ·cases hv
   exact OpR.quiet (v:=_) (fun w=>by simp[execOp,ho,e,Op.unary,Op.intBits]) (ROk.lit rfl)
  ·cases hv
 ·split at hv
  ·cases hv
   exact OpR.quiet (v:=_) (fun w=>by simp[execOp,ho,e,Op.unary]) (ROk.lit rfl)
  ·cases hv
 ·cases hv
theorem Yx(R:Ax E lam z fp hd st tm w)(F:Refs st tm w lam){o:Oper}{t u:TypeId}{x:Operand}{op:AOp}(ho:o.op=.convert t u x)(ha:G7 E.P t u x=some op)(hnb:∀a,op≠.conv .bytesToStr a){s:SV}{g:Bool}(hg:g=true)
  (h:(st.A5 g op).holds (·=s)):OpR E lam z st tm ds w o s:=by
 unfold G7 at ha
 split at ha
 ·rename_i a k k' hx hs hd'
  simp only[Option.some.injEq]at ha
  subst ha
  simp only[St.A5,M.Aa]at h
  obtain⟨c,h1,h⟩:=Ba h
  split at h
  ·rename_i k2 k3 n hk
   simp only[Cv.toInt.injEq]at hk
   subst hk
   rw[M.Ad]at h
   subst h
   have e:=Bz (ds:=ds) R F hg hx h1
   exact OpR.quiet (v:=.int k' (k'.wrap n)) (fun w=>by simp[execOp,ho,e,convert,run_underlying hs,run_underlying hd',Conv.intToInt]) (ROk.lit rfl)
  all_goals first
   |(rename_i hk;cases hk;done)
   |exact h.elim
 ·rename_i a hx hs hd'
  simp only[Option.some.injEq]at ha
  subst ha
  simp only[St.A5,M.Aa]at h
  obtain⟨c,h1,h⟩:=Ba h
  split at h
  ·rename_i hk;cases hk
  ·rename_i b hk
   rw[M.Ad]at h
   subst h
   have e:=Bz (ds:=ds) R F hg hx h1
   exact OpR.quiet (v:=.string b) (fun w=>by simp[execOp,ho,e,convert,run_underlying hs,run_underlying hd']) (ROk.lit rfl)
  all_goals first
   |(rename_i hk;cases hk;done)
   |exact h.elim
 ·rename_i a k hx hs hd'
  simp only[Option.some.injEq]at ha
  subst ha
  simp only[St.A5,M.Aa]at h
  obtain⟨c,h1,h⟩:=Ba h
  split at h
  ·rename_i hk;cases hk
  ·rename_i hk;cases hk
  ·rename_i k2 n hk
   rw[M.Ad]at h
   subst h
   have e:=Bz (ds:=ds) R F hg hx h1
   exact OpR.quiet (v:=.string (Utf8.encode n)) (fun w=>by simp[execOp,ho,e,convert,run_underlying hs,run_underlying hd',Conv.intToString]) (ROk.lit rfl)
  all_goals first
   |(rename_i hk;cases hk;done)
   |exact h.elim
 ·split at ha
  ·cases ha;exact absurd rfl (hnb _)
  ·cases ha
 ·cases ha
theorem YD(R:Ax E lam z fp hd st tm w)(F:Refs st tm w lam){o:Oper}{x:Operand}{a:Opd}(ho:o.op=.nilCheck x)(ha:AA E.P x=some a){s:SV}{g:Bool}(hg:g=true)
  (h:(st.A5 g (.nilc a)).holds (·=s)):OpR E lam z st tm ds w o s:=by
 simp only[St.A5,M.Aa]at h
 obtain⟨c,h1,h⟩:=Ba h
 obtain⟨h2,h3⟩:=CW R F hg ha h1 ds
 generalize hu:Act.eval ⟨tm,ds⟩ x=u at h2 h3
 split at h
 ·rw[M.Ad]at h
  subst h
  have h2':=h2
  cases h2
  exact OpR.quiet (v:=_) (fun w=>by simp[execOp,ho,hu]) (.same h2' h3)
 ·rw[M.Ad]at h
  subst h
  have h2':=h2
  cases h2
  exact OpR.quiet (v:=_) (fun w=>by simp[execOp,ho,hu]) (.same h2' h3)
 ·rw[M.Ad]at h
  subst h
  have h2':=h2
  cases h2
  exact OpR.quiet (v:=_) (fun w=>by simp[execOp,ho,hu]) (.same h2' h3)
 ·rw[M.Ad]at h
  subst h
  have h2':=h2
  cases h2
  exact OpR.quiet (v:=_) (fun w=>by simp[execOp,ho,hu]) (.same h2' h3)
 ·exact h.elim
theorem YA(R:Ax E lam z fp hd st tm w)(F:Refs st tm w lam){o:Oper}{x:Operand}{t:TypeId}{e:TypeId}{a:Opd}(ho:o.op=.call {callee:=.builtin .len,args:=#[x],argTypes:=#[t]})
  (ha:AA E.P x=some a) (ht:E.P.underlying t=some (.slice e)) {s:SV} {g:Bool} (hg:g=true) (h:(st.A5 g (.lenK a)).holds (·=s)):OpR E lam z st tm ds w o s:=by
 simp only[St.A5,M.Aa]at h
 obtain⟨c,h1,h⟩:=Ba h
 obtain⟨h2,h3⟩:=CW R F hg ha h1 ds
 generalize hu:Act.eval ⟨tm,ds⟩ x=u at h2 h3
 rw[M.Aw]at h
 obtain⟨n,hn,h⟩:=h
 rw[M.Ad]at h
 subst h
 have key:∃b m c',u=.slice b m c'∧n=(m:Int):=by
  unfold Xw at hn
  split at hn
  ·rw[M.Ad]at hn;cases h2;exact⟨_,_,_,rfl,hn.symm⟩
  ·rw[M.Ad]at hn
   cases h2 with
   |slNil τ k=>exact⟨_,_,_,rfl,by simpa using hn.symm⟩
   |shrE=>exact⟨_,_,_,rfl,by simpa using hn.symm⟩
   |shr=>exact⟨_,_,_,rfl,hn.symm⟩
  ·rw[M.Ad]at hn;obtain⟨rfl,_⟩:=FV h2;exact⟨_,_,_,rfl,by simpa using hn.symm⟩
  ·exact hn.elim
 obtain⟨b,m,c',rfl,rfl⟩:=key
 exact OpR.quiet (v:=.int .i64 m) (fun w=>by simp[execOp,ho,resolve,invoke,builtin,hu,Builtin.len_,run_underlying ht,goInt]) (ROk.lit rfl)
theorem YB(R:Ax E lam z fp hd st tm w)(F:Refs st tm w lam){o:Oper}{x:Operand}{t:TypeId}{a:Opd}(ho:o.op=.call {callee:=.builtin .len,args:=#[x],argTypes:=#[t]})
  (ha:AA E.P x=some a) (ht:E.P.underlying t=some .string) {s:SV} {g:Bool} (hg:g=true) (h:(st.A5 g (.lenS a)).holds (·=s)):OpR E lam z st tm ds w o s:=by
 simp only[St.A5,M.Aa]at h
 obtain⟨c,h1,h⟩:=Ba h
 split at h
 ·rename_i b
  rw[M.Ad]at h
  subst h
  have e:=Bz (ds:=ds) R F hg ha h1
  exact OpR.quiet (v:=.int .i64 b.size) (fun w=>by simp[execOp,ho,resolve,invoke,builtin,e,Builtin.len_,run_underlying ht,goInt]) (ROk.lit rfl)
 ·exact h.elim
theorem Yz{o:Oper}{x:Operand}{t e:TypeId}{n:Nat}(ho:o.op=.call {callee:=.builtin .len,args:=#[x],argTypes:=#[t]})
  (ht:E.P.underlying t=some (.array n e)) {s:SV} {g:Bool} (h:(st.A5 g (.lenC n)).holds (·=s)):OpR E lam z st tm ds w o s:=by
 simp only[St.A5]at h
 rw[M.Ad]at h
 subst h
 exact OpR.quiet (v:=.int .i64 n) (fun w=>by simp[execOp,ho,resolve,invoke,builtin,Builtin.len_,run_underlying ht,goInt]) (ROk.lit rfl)
theorem ZJ(R:Ax E lam z fp hd st tm w)(F:Refs st tm w lam){o:Oper}{mx:Bool}{x y:Operand}{ts:Array TypeId}{a b:Opd}
  (ho:o.op=.call {callee:=.builtin (if mx then .max else .min),args:=#[x,y],argTypes:=ts}) (ha:AA E.P x=some a) (hb:AA E.P y=some b) {s:SV} {g:Bool} (hg:g=true)
  (h:(st.A5 g (.mm mx a b)).holds (·=s)):OpR E lam z st tm ds w o s:=by
 simp only[St.A5,M.Aa]at h
 obtain⟨c,h1,h⟩:=Ba h
 obtain⟨c',h2,h⟩:=Ba h
 split at h
 ·rename_i k m k' n
  rw[M.Ad]at h
  subst h
  have e1:=Bz (ds:=ds) R F hg ha h1
  have e2:=Bz (ds:=ds) R F hg hb h2
  cases mx with
  |true=>exact OpR.quiet (v:=_) (fun w=>by simp[execOp,ho,resolve,invoke,builtin,e1,e2,run_max_int2]) (ROk.lit rfl)
  |false=>exact OpR.quiet (v:=_) (fun w=>by simp[execOp,ho,resolve,invoke,builtin,e1,e2,run_min_int2]) (ROk.lit rfl)
 ·exact h.elim
theorem XE(R:Ax E lam z fp hd st tm w)(F:Refs st tm w lam){o:Oper}{t:TypeId}{x:Operand}{a:Opd}{f n:Nat}{fs:Array Field}{fd:Field}(ho:o.op=.fieldAddr t x f)(ha:AA E.P x=some a)
  (ht:E.P.underlying t=some (.struct fs)) (hf:fs[f]?=some fd) (hn:sizeOf? E.P fd.type=some n) (hn0:n≠0) {s:SV} {g:Bool} (hg:g=true) (h:(st.A5 g (.fAddr fd.offset a)).holds (·=s)):
  OpR E lam z st tm ds w o s:=by
 simp only[St.A5,M.Aa]at h
 obtain⟨c,h1,h⟩:=Ba h
 obtain⟨h2,h3⟩:=CW R F hg ha h1 ds
 generalize hu:Act.eval ⟨tm,ds⟩ x=u at h2 h3
 have hrun:∀ad:Addr,u=.pointer (some ad)→∀w,(execOp (Act.eval ⟨tm,ds⟩) o).run E.P w=.ok (.value (.pointer (some (ad.add fd.offset)))) w:=by
  intro ad e
  subst e
  simp only[sizeOf?,Option.map_eq_some_iff]at hn
  obtain⟨i,hi,hi2⟩:=hn
  simp[execOp,ho,hu,Instr.fieldAt,run_underlying ht,hf,Instr.sureAddr,fieldPlace,sizeOf,typeInfo,hi,hi2,hn0]
 have hadd:∀b c m,(⟨b,c,none⟩:Addr).add m=⟨b,c+m,none⟩:=by intro b c m;unfold Addr.add;split<;>simp_all
 split at h
 ·rename_i o' c'
  rw[M.Ad]at h
  subst h
  cases h2 with
  |ptr _ _ hlt=>
   refine OpR.quiet (hrun _ rfl) ?_
   rw[hadd]
   exact ROk.one (.ptr o' (c'+fd.offset) hlt) trivial
 ·rename_i p v k i c'
  rw[M.Ad]at h
  subst h
  cases h2 with
  |adr _ _ _ _ _ ad=>
   refine OpR.quiet (hrun _ rfl) (ROk.one (.adr ..) ?_)
   have:=h3.Bk
   refine⟨this.1,fun hv=>?_⟩
   obtain⟨xs,b,off,len,cap,k1,k2,k3⟩:=this.2 hv
   refine⟨xs,b,off,len,cap,k1,k2,?_⟩
   simp only[Value.pointer.injEq,Option.some.injEq]at k3
   subst k3
   rw[hadd,Nat.add_assoc]
 ·rename_i k xs i c'
  rw[M.Ad]at h
  subst h
  cases h2 with
  |iadr _ _ _ _ b off cs e fz hz hb hs hk hr=>
   refine OpR.quiet (hrun _ rfl) ?_
   rw[hadd,Nat.add_assoc]
   exact ROk.one (.iadr k xs i _ b off cs e fz hz hb hs hk hr) trivial
 ·exact h.elim
theorem Zd(R:Ax E lam z fp hd st tm w)(F:Refs st tm w lam){o:Oper}{t e:TypeId}{x i:Operand}{a b:Opd}{k:Nat}(ho:o.op=.indexAddr t x i)(ha:AA E.P x=some a)(hb:AA E.P i=some b)
  (ht:E.P.underlying t=some (.slice e)) (hk:sizeOf? E.P e=some k) {s:SV} {g:Bool} (hg:g=true) (h:(st.A5 g (.ixA k a b)).holds (·=s)):OpR E lam z st tm ds w o s:=by
 simp only[St.A5,M.Aa]at h
 obtain⟨ik,n,h0,h⟩:=Eu h
 obtain⟨c,h1,h⟩:=Ba h
 obtain⟨h2,h3⟩:=CW R F hg ha h1 ds
 have e0:=Bz (ds:=ds) R F hg hb h0
 generalize hu:Act.eval ⟨tm,ds⟩ x=u at h2 h3
 simp only[sizeOf?,Option.map_eq_some_iff]at hk
 obtain⟨ti,hi,hi2⟩:=hk
 have hrun:∀(ad:Addr) (len cap:Nat),u=.slice (some ad) len cap→0≤n→n<len→∀w,(execOp (Act.eval ⟨tm,ds⟩) o).run E.P w=.ok (.value (.pointer (some (ad.add (n.toNat*k))))) w:=by
  intro ad len cap e1 hn0 hn1
  subst e1
  simp[execOp,ho,hu,e0,Instr.indexAt,run_underlying ht,asIntOf,hn0,hn1,sizeOf,typeInfo,hi,hi2]
 have hadd:∀b c m,(⟨b,c,none⟩:Addr).add m=⟨b,c+m,none⟩:=by intro b c m;unfold Addr.add;split<;>simp_all
 split at h
 ·rename_i p v k' lo m
  split at h
  ·rename_i k2 xs' hat
   simp only[M.Aa,M.Aj]at h
   obtain⟨hv,hkk,hn,h⟩:=h
   rw[M.Ad]at h
   subst h
   subst hkk
   obtain⟨hn0,hn1⟩:=hn hg
   have hc:=(h3.Bk).2 hv
   obtain⟨xs,v0,k1,k3,k4⟩:=hc
   rcases k4 with⟨_,_,_,rfl⟩|⟨bk,off,len,cap,off',cap',rfl,rfl,k5,k6,k7,k8⟩
   ·omega
   ·refine OpR.quiet (hrun _ _ _ rfl hn0 hn1) (ROk.one (.adr ..) ⟨(h3.Bk).1,fun _=>⟨xs,bk,off,len,cap,k1,k3,?_⟩⟩)
    rw[hadd,k8 (by omega)]
    rw[Nat.add_mul];simp[Nat.add_assoc]
  ·exact h.elim
 ·rename_i τ k' xs
  simp only[M.Aa,M.Aj]at h
  obtain⟨hkk,hτ,hn,h⟩:=h
  rw[M.Ad]at h
  subst h
  subst hkk
  obtain⟨hn0,hn1⟩:=hn hg
  cases h2 with
  |slNil=>simp at hn1;omega
  |shrE=>simp at hn1;omega
  |shr _ _ _ bk off cap cs e' fz _ hz him hb' hs hc hkk hr=>
   refine OpR.quiet (hrun _ _ _ rfl hn0 hn1) ?_
   rw[hadd]
   exact ROk.one (.iadr k' xs n.toNat 0 bk off cs e' fz hz hb' hs hkk hr) trivial
 ·exact h.elim
theorem Yy(R:Ax E lam z fp hd st tm w)(F:Refs st tm w lam){o:Oper}{t e:TypeId}{x i:Operand}{a b:Opd}{len k:Nat}(ho:o.op=.indexAddr t x i)(ha:AA E.P x=some a)(hb:AA E.P i=some b)
  (ht:E.P.underlying t=some (.array len e)) (hk:sizeOf? E.P e=some k) {s:SV} {g:Bool} (hg:g=true) (h:(st.A5 g (.ixAr len k a b)).holds (·=s)):OpR E lam z st tm ds w o s:=by
 simp only[St.A5,M.Aa]at h
 obtain⟨ik,n,h0,h⟩:=Eu h
 rw[M.Aj]at h
 obtain⟨hn,h⟩:=h
 obtain⟨hn0,hn1⟩:=hn hg
 obtain⟨c,h1,h⟩:=Ba h
 obtain⟨h2,h3⟩:=CW R F hg ha h1 ds
 have e0:=Bz (ds:=ds) R F hg hb h0
 generalize hu:Act.eval ⟨tm,ds⟩ x=u at h2 h3
 simp only[sizeOf?,Option.map_eq_some_iff]at hk
 obtain⟨ti,hi,hi2⟩:=hk
 have hrun:∀(ad:Addr),u=.pointer (some ad)→∀w,(execOp (Act.eval ⟨tm,ds⟩) o).run E.P w=.ok (.value (.pointer (some (ad.add (n.toNat*k))))) w:=by
  intro ad e1
  subst e1
  simp[execOp,ho,hu,e0,Instr.indexAt,run_underlying ht,asIntOf,hn0,hn1,sizeOf,typeInfo,hi,hi2,Instr.sureAddr]
 have hadd:∀b c m,(⟨b,c,none⟩:Addr).add m=⟨b,c+m,none⟩:=by intro b c m;unfold Addr.add;split<;>simp_all
 split at h
 ·rename_i o' c'
  rw[M.Ad]at h
  subst h
  cases h2 with
  |ptr _ _ hlt=>
   refine OpR.quiet (hrun _ rfl) ?_
   rw[hadd]
   exact ROk.one (.ptr o' _ hlt) trivial
 ·rename_i p v k' j c'
  rw[M.Ad]at h
  subst h
  cases h2 with
  |adr _ _ _ _ _ ad=>
   refine OpR.quiet (hrun _ rfl) (ROk.one (.adr ..) ?_)
   have:=h3.Bk
   refine⟨this.1,fun hv=>?_⟩
   obtain⟨xs,b,off,len,cap,k1,k2,k3⟩:=this.2 hv
   refine⟨xs,b,off,len,cap,k1,k2,?_⟩
   simp only[Value.pointer.injEq,Option.some.injEq]at k3
   subst k3
   rw[hadd,Nat.add_assoc]
 ·rename_i k' xs j c'
  rw[M.Ad]at h
  subst h
  cases h2 with
  |iadr _ _ _ _ b off cs e fz hz hb hs hk hr=>
   refine OpR.quiet (hrun _ rfl) ?_
   rw[hadd,Nat.add_assoc]
   exact ROk.one (.iadr k' xs j _ b off cs e fz hz hb hs hk hr) trivial
 ·exact h.elim
theorem Ze(R:Ax E lam z fp hd st tm w)(F:Refs st tm w lam){o:Oper}{t:TypeId}{x i:Operand}{a b:Opd}(ho:o.op=.index t x i)(ha:AA E.P x=some a)(hb:AA E.P i=some b)
  (ht:E.P.underlying t=some .string) {s:SV} {g:Bool} (hg:g=true) (h:(st.A5 g (.ixS a b)).holds (·=s)):OpR E lam z st tm ds w o s:=by
 simp only[St.A5,M.Aa]at h
 obtain⟨ik,n,h0,h⟩:=Eu h
 obtain⟨c,h1,h⟩:=Ba h
 have e0:=Bz (ds:=ds) R F hg hb h0
 split at h
 ·rename_i b'
  rw[M.Aa,M.Aj]at h
  obtain⟨hn,h⟩:=h
  obtain⟨hn0,hn1⟩:=hn hg
  rw[M.Ad]at h
  subst h
  have e1:=Bz (ds:=ds) R F hg ha h1
  have hlt:n.toNat<b'.size:=by omega
  have hget:b'[n.toNat]?=some (b'.data.toList.getD n.toNat 0):=by
   have e2:b'[n.toNat]?=some b'[n.toNat]:=by simp[hlt]
   rw[e2]
   congr 1
   rw[List.getD_eq_getElem?_getD,Array.getElem?_toList,Array.getElem?_eq_getElem (by simpa using hlt)]
   rfl
  exact OpR.quiet (v:=.int .u8 (b'.data.toList.getD n.toNat 0).toNat) (fun w=>by simp[execOp,ho,e0,e1,Instr.index,asIntOf,run_underlying ht,hn0,hget]) (ROk.lit rfl)
 ·exact h.elim
theorem X9(R:Ax E lam z fp hd st tm w)(F:Refs st tm w lam){o:Oper}{f:FuncId}{fn:Func}{caps:Array Operand}{l:List Opd}{b:Bool}(ho:o.op=.makeFunc (.func f) (bif b then caps else#[]) (bif b then#[]else caps))(hf:E.P.funcs[f]?=some fn)
  (hl:Dr E.P caps.toList=some l) {s:SV} {g:Bool} (hg:g=true) (h:(st.A5 g (.mkf (fn.name,b) l)).holds (·=s)):OpR E lam z st tm ds w o s:=by
 simp only[St.A5,M.Aa]at h
 rw[M.Aw]at h
 obtain⟨m,hm,h⟩:=h
 simp only[M.Aj]at h
 obtain⟨_,h⟩:=h
 rw[M.Ad]at h
 subst h
 have key:∀(l:List Opd) (os:List Operand) (m:List AV),Dr E.P os=some l→(Ii st g l).holds (·=m)→RVs (ctx E lam z st.hp.next) w m (os.map (Act.eval ⟨tm,ds⟩)) []:=by
  intro l
  induction l with
  |nil=>
   intro os m ho hm
   cases os with
   |nil=>simp only[Ii]at hm;rw[M.Ad]at hm;subst hm;exact .nil
   |cons x r=>simp only[Dr]at ho;split at ho<;>simp at ho
  |cons y l ih=>
   intro os m ho hm
   cases os with
   |nil=>simp[Dr]at ho
   |cons x r=>
    simp only[Dr]at ho
    split at ho
    ·rename_i y' l' hy hl'
     simp only[Option.some.injEq,List.cons.injEq]at ho
     obtain⟨rfl,rfl⟩:=ho
     simp only[Ii,M.Aa]at hm
     obtain⟨a,ha,hm⟩:=Ba hm
     rw[M.Aw]at hm
     obtain⟨m',hm',hm⟩:=hm
     rw[M.Ad]at hm
     subst hm
     exact .cons _ _ [] _ _ [] (CW R F hg hy ha ds).1 (ih r m' hl' hm')
    ·cases ho
 have hr:=key l caps.toList m hl hm
 have e:caps.map (Act.eval ⟨tm,ds⟩)=(caps.toList.map (Act.eval ⟨tm,ds⟩)).toArray:=by
  apply Array.ext';simp
 cases b with
 |false=>
  refine OpR.quiet (v:=.func (.func f) #[] (caps.map (Act.eval ⟨tm,ds⟩))) (fun w=>by simp[execOp,ho,Instr.makeFunc]) (ROk.one ?_ trivial)
  rw[e]
  exact .clo (fn.name,false) m f fn _ hf rfl hr
 |true=>
  refine OpR.quiet (v:=.func (.func f) (caps.map (Act.eval ⟨tm,ds⟩)) #[]) (fun w=>by simp[execOp,ho,Instr.makeFunc]) (ROk.one ?_ trivial)
  rw[e]
  exact .clo (fn.name,true) m f fn _ hf rfl hr
end
end Go.VS
namespace Go.VS
section
variable{E:Env}{lam:Nat→Nat}{z:Nat→Prop}{fp:Ky→List Nat}{hd:Hands}{st:St}{tm:Array Value}{w:World}{ds:List Deferred}
theorem E1(R:Ax E lam z fp hd st tm w)(F:Refs st tm w lam){g:Bool}(hg:g=true){lo hi:Option Operand}{lo' hi':Option Opd}(hlo:FA E.P lo=some lo')(hhi:FA E.P hi=some hi')
  {len:Nat} {K:Nat×Nat→Prop} (h:(Ft st g len lo' hi').holds K) (isS:Bool) (cap:Nat) (hc:len≤cap):
  ∃l h',l≤h'∧h'≤len∧K (l,h')∧∀w,(Instr.sliceBounds isS len cap (lo.map (Act.eval ⟨tm,ds⟩)) (hi.map (Act.eval ⟨tm,ds⟩)) none).run E.P w=.ok (l,h',cap) w:=by
 unfold Ft at h
 rw[M.Aa]at h
 have step1:∃h',h'≤len∧(UL st g h' lo'>>=fun l=>pure (l,h'):M (Nat×Nat)).holds K∧
   ((hi.map (Act.eval ⟨tm,ds⟩)=none∧h'=len)∨∃k n,hi.map (Act.eval ⟨tm,ds⟩)=some (.int k n)∧0≤n∧n≤cap∧h'=n.toNat):=by
  cases hi with
  |none=>
   simp only[FA,Option.some.injEq]at hhi
   subst hhi
   simp only[V5]at h
   rw[M.Ad]at h
   exact⟨len,Nat.le_refl _,h,.inl ⟨rfl,rfl⟩⟩
  |some x=>
   simp only[FA,Option.map_eq_some_iff]at hhi
   obtain⟨y,hy,rfl⟩:=hhi
   simp only[V5,M.Aa]at h
   obtain⟨k,n,h1,h⟩:=Eu h
   rw[M.Aj]at h
   obtain⟨hn,h⟩:=h
   obtain⟨hn0,hn1⟩:=hn hg
   rw[M.Ad]at h
   have e:=Bz (ds:=ds) R F hg hy h1
   exact⟨n.toNat,by omega,by rw[M.Aa];exact h,.inr ⟨k,n,by rw[Option.map_some,e],hn0,by omega,rfl⟩⟩
 obtain⟨h',hh',h,hr⟩:=step1
 have step2:∃l,l≤h'∧K (l,h')∧((lo.map (Act.eval ⟨tm,ds⟩)=none∧l=0)∨∃k n,lo.map (Act.eval ⟨tm,ds⟩)=some (.int k n)∧0≤n∧n≤h'∧l=n.toNat):=by
  cases lo with
  |none=>
   simp only[FA,Option.some.injEq]at hlo
   subst hlo
   simp only[UL,M.Aa]at h
   rw[M.Ad,M.Ad]at h
   exact⟨0,Nat.zero_le _,h,.inl ⟨rfl,rfl⟩⟩
  |some x=>
   simp only[FA,Option.map_eq_some_iff]at hlo
   obtain⟨y,hy,rfl⟩:=hlo
   simp only[UL,M.Aa]at h
   obtain⟨k,n,h1,h⟩:=Eu h
   rw[M.Aj]at h
   obtain⟨hn,h⟩:=h
   obtain⟨hn0,hn1⟩:=hn hg
   rw[M.Ad,M.Ad]at h
   have e:=Bz (ds:=ds) R F hg hy h1
   exact⟨n.toNat,by omega,h,.inr ⟨k,n,by rw[Option.map_some,e],hn0,by omega,rfl⟩⟩
 obtain⟨l,hl,hK,hr2⟩:=step2
 refine⟨l,h',hl,hh',hK,fun w=>?_⟩
 rcases hr with⟨e1,rfl⟩|⟨k,n,e1,hn0,hn1,rfl⟩<;>rcases hr2 with⟨e2,rfl⟩|⟨k2,n2,e2,hm0,hm1,rfl⟩<;>
  simp[Instr.sliceBounds,Instr.sliceBound,asIntOf, *]
 intro hx;exfalso;omega
theorem Zi(R:Ax E lam z fp hd st tm w)(F:Refs st tm w lam){o:Oper}{t:TypeId}{x:Operand}{lo hi:Option Operand}{lo' hi':Option Opd}{a:Opd}(ho:o.op=.slice t x lo hi none)(ha:AA E.P x=some a)
  (hlo:FA E.P lo=some lo') (hhi:FA E.P hi=some hi') (ht:E.P.underlying t=some .string) {s:SV} {g:Bool} (hg:g=true) (h:(st.A5 g (.slS a lo' hi')).holds (·=s)):OpR E lam z st tm ds w o s:=by
 simp only[St.A5,M.Aa]at h
 obtain⟨c,h1,h⟩:=Ba h
 split at h
 ·rename_i b
  rw[M.Aa]at h
  have e1:=Bz (ds:=ds) R F hg ha h1
  obtain⟨l,h',hl,hh,h,hr⟩:=E1 (ds:=ds) R F hg hlo hhi h false b.size (Nat.le_refl _)
  dsimp only at h
  rw[M.Ad]at h
  subst h
  exact OpR.quiet (v:=.string (b.extract l h')) (fun w=>by simp[execOp,ho,e1,Instr.sliceAt,run_underlying ht,Instr.slice,hr]) (ROk.lit rfl)
 ·exact h.elim
theorem ED(k:Nat):∀(xs:List (List AV)),(∀x∈xs,x.length=k)→∀(l n:Nat),((xs.drop l).take n).flatten=(xs.flatten.drop (l*k)).take (n*k)
 |[],_,l,n=>by simp
 |x::xs,h,0,0=>by simp
 |x::xs,h,0,n+1=>by
  have hx:=h x (by simp)
  have ih:=ED k xs (fun y hy=>h y (by simp[hy])) 0 n
  simp only[List.drop_zero,List.take_succ_cons,List.flatten_cons,Nat.zero_mul]at ih⊢
  rw[ih,List.take_append,hx,List.take_of_length_le (l:=x) (by rw[hx,Nat.succ_mul];omega)]
  congr 2
  rw[Nat.succ_mul];omega
 |x::xs,h,l+1,n=>by
  have hx:=h x (by simp)
  have ih:=ED k xs (fun y hy=>h y (by simp[hy])) l n
  simp only[List.drop_succ_cons,List.flatten_cons]
  rw[ih,List.drop_append,hx,List.drop_eq_nil_of_le (as:=x) (by rw[hx,Nat.succ_mul];omega),List.nil_append]
  congr 2
  rw[Nat.succ_mul];omega
theorem HA{α:Type}(l n:Nat)(xs:List α):window l n xs=(xs.drop l).take n:=by
 unfold window
 split
 ·rename_i h;obtain⟨rfl,rfl⟩:=h;simp
 ·rfl
theorem RVs.drop{C:Ctx}{w:World}{l:List AV}{m:List Value}{f:List Nat}(h:RVs C w l m f)(n:Nat):∃f1 f2,f=f1++f2∧RVs C w (l.drop n) (m.drop n) f2:=by
 obtain⟨m1,m2,f1,f2,rfl,rfl,h1,h2⟩:=RVs.split (l.take n) (l':=l.drop n) (by rw[List.take_append_drop];exact h)
 refine⟨f1,f2,rfl,?_⟩
 rcases Nat.lt_or_ge n l.length with hn|hn
 ·have:m1.length=n:=by rw[←h1.length,List.length_take];omega
  rw[←this,List.drop_left];rw[this];exact h2
 ·have e:l.drop n=[]:=List.drop_eq_nil_of_le hn
  rw[e]at h2⊢
  cases h2
  rw[List.append_nil]
  have:m1.length≤n:=by rw[←h1.length,List.length_take];omega
  rw[List.drop_eq_nil_of_le this]
  exact .nil
theorem RVs.take{C:Ctx}{w:World}{l:List AV}{m:List Value}{f:List Nat}(h:RVs C w l m f)(n:Nat):∃f1 f2,f=f1++f2∧RVs C w (l.take n) (m.take n) f1:=by
 obtain⟨m1,m2,f1,f2,rfl,rfl,h1,h2⟩:=RVs.split (l.take n) (l':=l.drop n) (by rw[List.take_append_drop];exact h)
 refine⟨f1,f2,rfl,?_⟩
 rcases Nat.lt_or_ge n l.length with hn|hn
 ·have:m1.length=n:=by rw[←h1.length,List.length_take];omega
  rw[←this,List.take_left];rw[this];exact h1
 ·have e:l.drop n=[]:=List.drop_eq_nil_of_le hn
  rw[e]at h2
  cases h2
  rw[List.append_nil]
  have:m1.length≤n:=by rw[←h1.length,List.length_take];omega
  rw[List.take_of_length_le this]
  exact h1
theorem LF(cs:Array Value)(off len k l n:Nat)(h:l+n≤len):(((cs.toList.drop off).take (len*k)).drop (l*k)).take (n*k)=(cs.toList.drop (off+l*k)).take (n*k):=by
 rw[List.drop_take,List.take_take,List.drop_drop]
 congr 1
 have:(l+n)*k≤len*k:=Nat.mul_le_mul_right k h
 rw[Nat.add_mul]at this
 rw[Nat.min_eq_left]
 omega
theorem Zh(R:Ax E lam z fp hd st tm w)(F:Refs st tm w lam){o:Oper}{t e:TypeId}{x:Operand}{lo hi:Option Operand}{lo' hi':Option Opd}{a:Opd}{k:Nat}(ho:o.op=.slice t x lo hi none)(ha:AA E.P x=some a)
  (hlo:FA E.P lo=some lo') (hhi:FA E.P hi=some hi') (ht:E.P.underlying t=some (.slice e)) (hk:sizeOf? E.P e=some k) {s:SV} {g:Bool} (hg:g=true)
  (h:(st.A5 g (.slK k a lo' hi')).holds (·=s)):OpR E lam z st tm ds w o s:=by
 simp only[St.A5,M.Aa]at h
 obtain⟨c,h1,h⟩:=Ba h
 obtain⟨h2,h3⟩:=CW R F hg ha h1 ds
 generalize hu:Act.eval ⟨tm,ds⟩ x=u at h2 h3
 simp only[sizeOf?,Option.map_eq_some_iff]at hk
 obtain⟨ti,hi1,hi2⟩:=hk
 have hrun:∀(ad:Option Addr) (len cap l h':Nat),u=.slice ad len cap→(∀w,(Instr.sliceBounds true len cap (lo.map (Act.eval ⟨tm,ds⟩)) (hi.map (Act.eval ⟨tm,ds⟩)) none).run E.P w=.ok (l,h',cap) w)→
   ∀w,(execOp (Act.eval ⟨tm,ds⟩) o).run E.P w=.ok (.value (.slice (if cap=l then ad else ad.map (·.add (l*k))) (h' -l) (cap -l))) w:=by
  intro ad len cap l h' e1 hr
  subst e1
  simp[execOp,ho,hu,Instr.sliceAt,run_underlying ht,Instr.slice,hr,sizeOf,typeInfo,hi1,hi2]
 have hadd:∀b c m,(⟨b,c,none⟩:Addr).add m=⟨b,c+m,none⟩:=by intro b c m;unfold Addr.add;split<;>simp_all
 split at h
 ·rename_i p v k' lo0 n
  split at h
  ·rename_i k2 xs' hat
   simp only[M.Aa,M.Aj]at h
   obtain⟨hv,hkk,h⟩:=h
   subst hkk
   obtain⟨xs,v0,k1,k3,k4⟩:=(h3.Bk).2 hv
   rcases k4 with⟨_,rfl,rfl,rfl⟩|⟨bk,off,len,cap,off',cap',rfl,rfl,k5,k6,k7,k8⟩
   ·obtain⟨l,h',hl,hh,h,hr⟩:=E1 (ds:=ds) R F hg hlo hhi h true 0 (Nat.le_refl _)
    dsimp only at h
    rw[M.Ad]at h
    subst h
    obtain rfl:l=0:=by omega
    obtain rfl:h'=0:=by omega
    refine OpR.quiet (hrun _ _ _ _ _ rfl hr) ?_
    simp only[if_true]
    exact ROk.one (.ref ..) ⟨(h3.Bk).1,fun _=>⟨xs,_,k1,k3,.inl ⟨‹_›,rfl,rfl,rfl⟩⟩⟩
   ·obtain⟨l,h',hl,hh,h,hr⟩:=E1 (ds:=ds) R F hg hlo hhi h true cap' k6
    dsimp only at h
    rw[M.Ad]at h
    subst h
    refine OpR.quiet (hrun _ _ _ _ _ rfl hr) ?_
    have hlc:l≤cap':=by omega
    by_cases hcl:cap'=l
    ·rw[if_pos hcl]
     exact ROk.one (.ref ..) ⟨(h3.Bk).1,fun _=>⟨xs,_,k1,k3,.inr ⟨bk,off,len,cap,off',cap' -l,rfl,rfl,by omega,by omega,by
      have:(cap' -l)*k'=0:=by rw[hcl];simp
      rw[this];have:=Nat.zero_le (cap'*k');omega,fun h0=>absurd (by omega) h0⟩⟩⟩
    ·rw[if_neg hcl]
     simp only[Option.map_some,hadd]
     have hoff:=k8 (by omega)
     refine ROk.one (.ref ..) ⟨(h3.Bk).1,fun _=>⟨xs,_,k1,k3,.inr ⟨bk,off,len,cap,off'+l*k',cap' -l,rfl,rfl,by omega,by omega,?_,fun _=>?_⟩⟩⟩
     ·have:l*k'+(cap' -l)*k'=cap'*k':=by rw[←Nat.add_mul];congr 1;omega
      omega
     ·rw[hoff,Nat.add_mul];omega
  ·exact h.elim
 ·rename_i τ k' xs
  simp only[M.Aa,M.Aj]at h
  obtain⟨hkk,hτ,h⟩:=h
  subst hkk
  cases h2 with
  |slNil=>
   obtain⟨l,h',hl,hh,h,hr⟩:=E1 (ds:=ds) R F hg hlo hhi h true 0 (Nat.le_refl _)
   dsimp only at h
   rw[M.Ad]at h
   subst h
   obtain rfl:l=0:=by simpa using Nat.le_trans hl hh
   obtain rfl:h'=0:=by simpa using hh
   refine OpR.quiet (hrun _ _ _ _ _ rfl hr) ?_
   simp only[if_true]
   exact ROk.one (.slNil ..) trivial
  |shrE _ _ ad cap hte=>
   obtain⟨l,h',hl,hh,h,hr⟩:=E1 (ds:=ds) R F hg hlo hhi h true cap (Nat.zero_le _)
   dsimp only at h
   rw[M.Ad]at h
   subst h
   obtain rfl:h'=0:=by simpa using hh
   obtain rfl:l=0:=by omega
   refine OpR.quiet (hrun _ _ _ _ _ rfl hr) ?_
   have hw:window 0 (0 -0) ([]:List (List AV))=[]:=rfl
   rw[hw]
   by_cases hc0:cap=0
   ·rw[if_pos hc0];exact ROk.one (.shrE _ _ _ _ hte) trivial
   ·rw[if_neg hc0];exact ROk.one (.shrE _ _ _ _ hte) trivial
  |shr _ _ _ bk off cap cs e' fz _ hz him hb' hs hc hkk hr'=>
   obtain⟨l,h',hl,hh,h,hr⟩:=E1 (ds:=ds) R F hg hlo hhi h true cap hc
   dsimp only at h
   rw[M.Ad]at h
   subst h
   refine OpR.quiet (hrun _ _ _ _ _ rfl hr) ?_
   have hw:window l (h' -l) xs=(xs.drop l).take (h' -l):=HA ..
   have hlen:((xs.drop l).take (h' -l)).length=h' -l:=by simp;omega
   have hk':∀y∈(xs.drop l).take (h' -l),y.length=k':=fun y hy=>hkk y (List.mem_of_mem_drop (List.mem_of_mem_take hy))
   obtain⟨f1,f2,hf,hd1⟩:=hr'.drop (l*k')
   have hf':=List.append_eq_nil_iff.1 hf.symm
   rw[hf'.2]at hd1
   obtain⟨f3,f4,hf2,hd2⟩:=hd1.take ((h' -l)*k')
   rw[(List.append_eq_nil_iff.1 hf2.symm).1,LF cs off xs.length k' l (h' -l) (by omega)]at hd2
   rw[←ED k' xs hkk]at hd2
   have hbnd:off+l*k'+(h' -l)*k'≤cs.size:=by
    have h5:l*k'+(h' -l)*k'=h'*k':=by rw[←Nat.add_mul];congr 1;omega
    have h6:=Nat.mul_le_mul_right k' hh
    omega
   have fin:∀ad,(ad=⟨bk,off+l*k',none⟩∨h' -l=0∧ad=⟨bk,off,none⟩)→RV (ctx E lam z st.hp.next) w (.sl τ k' (window l (h' -l) xs)) (.slice (some ad) (h' -l) (cap -l)) []:=by
    intro ad had
    rw[hw]
    rcases had with rfl|⟨h0,rfl⟩
    ·have:=RV.shr (C:=ctx E lam z st.hp.next) (w:=w) τ k' ((xs.drop l).take (h' -l)) bk (off+l*k') (cap -l) cs e' fz hτ hz him hb' (by rw[hlen];exact hbnd) (by rw[hlen];omega) hk' (by rw[hlen];exact hd2)
     rw[hlen]at this
     exact this
    ·have hnil:(xs.drop l).take (h' -l)=[]:=by rw[h0];simp
     have:=RV.shr (C:=ctx E lam z st.hp.next) (w:=w) τ k' [] bk off (cap -l) cs e' fz hτ hz him hb' (by simp;omega) (by simp) (by simp) (by simpa using RVs.nil)
     rw[hnil,h0];exact this
   by_cases hcl:cap=l
   ·rw[if_pos hcl]
    exact ROk.one (fin _ (.inr ⟨by omega,rfl⟩)) trivial
   ·rw[if_neg hcl]
    simp only[Option.map_some,hadd]
    exact ROk.one (fin _ (.inl rfl)) trivial
 ·simp only[M.Aa]at h
  obtain⟨rfl,_⟩:=FV h2
  obtain⟨l,h',hl,hh,h,hr⟩:=E1 (ds:=ds) R F hg hlo hhi h true 0 (Nat.le_refl _)
  rw[M.Ad]at h
  subst h
  obtain rfl:l=0:=by omega
  obtain rfl:h'=0:=by omega
  refine OpR.quiet (hrun _ _ _ _ _ rfl hr) ?_
  simp only[if_true]
  exact ROk.lit rfl
 ·exact h.elim
theorem EL{α:Type}(zs:List α):∀n,(List.replicate n zs).flatten.length=n*zs.length
 |0=>by simp
 |n+1=>by simp[List.replicate_succ,EL zs n,Nat.succ_mul];omega
theorem La(zs:Array Value)(hz:0<zs.size):∀n,(madeCells zs (n*zs.size)).toList=(List.replicate n zs.toList).flatten:=by
 intro n
 apply List.ext_getElem?
 intro i
 have hlen:(List.replicate n zs.toList).flatten.length=n*zs.size:=by rw[EL];simp
 rcases Nat.lt_or_ge i (n*zs.size)with hi|hi
 ·have h1:(madeCells zs (n*zs.size)).toList[i]?=some (zs[i%zs.size]!):=by
   simp only[madeCells,Array.getElem?_toList]
   rw[Array.getElem?_map,Array.getElem?_range,if_pos hi]
   rfl
  rw[h1]
  have hm:i%zs.size<zs.size:=Nat.mod_lt _ hz
  have hd:i/zs.size<n:=by rw[Nat.div_lt_iff_lt_mul hz];exact hi
  have h2:=(BG? zs.size (List.replicate n zs.toList) (fun x hx=>by rw[List.eq_of_mem_replicate hx];simp) (i/zs.size) (i%zs.size) (zs[i%zs.size]) (by
   rw[List.getElem?_replicate,if_pos hd]
   simp[hm])).1
  rw[Nat.mul_comm,Nat.div_add_mod]at h2
  rw[h2,getElem!_pos zs _ hm]
 ·rw[List.getElem?_eq_none (by simp[size_madeCells];omega),List.getElem?_eq_none (by omega)]
theorem RVs.lits{C:Ctx}{w:World}:∀(l:List Value),(l.all Value.oneCell'=true)→RVs C w (l.map .lit) l []
 |[],_=>.nil
 |v::l,h=>by
  simp only[List.all_cons,Bool.and_eq_true]at h
  exact .cons _ _ [] _ _ [] (.lit v h.1) (RVs.lits l h.2)
theorem EM(n:Nat)(zs:List Value):(List.replicate n (zs.map AV.lit)).flatten=(List.replicate n zs).flatten.map AV.lit:=by
 induction n with
 |zero=>rfl
 |succ n ih=>rw[List.replicate_succ,List.replicate_succ,List.flatten_cons,List.flatten_cons,List.map_append,ih]
theorem Dq(p:Value→Bool)(zs:List Value)(h:zs.all p=true):∀n,(List.replicate n zs).flatten.all p=true
 |0=>rfl
 |n+1=>by simp only[List.replicate_succ,List.flatten_cons,List.all_append,h,Dq p zs h n,Bool.and_true]
theorem HB{P:Program}{t:TypeId}{zs:List Value}(h:zeroOf? P t=some zs):∃i z,P.info? t=some i∧i.zero=some z∧z.cells.toList=zs∧zs.all Value.oneCell'=true:=by
 unfold zeroOf? at h
 split at h
 ·rename_i z hz
  split at h
  ·simp only[Option.some.injEq]at h
   subst h
   simp only[Option.bind_eq_some_iff]at hz
   obtain⟨i,h1,h2⟩:=hz
   exact⟨i,z,h1,h2,rfl,‹_›⟩
  ·cases h
 ·cases h
theorem YC(R:Ax E lam z fp hd st tm w)(F:Refs st tm w lam){o:Oper}{t e:TypeId}{x y:Operand}{a b:Opd}{k by_:Nat}{zs:List Value}(ho:o.op=.makeSlice t x y)(ha:AA E.P x=some a)(hb:AA E.P y=some b)
  (ht:E.P.underlying t=some (.slice e)) (hk:sizeOf? E.P e=some k) (hby:bytesOf? E.P e=some by_) (hz:zeroOf? E.P e=some zs) (hzk:zs.length=k∧0<k) {s:SV} {g:Bool} (hg:g=true)
  (h:(st.A5 g (.mkSl k by_ zs a b)).holds (·=s)):OpR E lam z st tm ds w o s:=by
 simp only[St.A5,M.Aa]at h
 obtain⟨ik,l,h0,h⟩:=Eu h
 obtain⟨ik',c,h1,h⟩:=Eu h
 simp only[M.Aj]at h
 obtain⟨hn,hc63,_,h⟩:=h
 obtain⟨hl0,hlc,hbytes⟩:=hn hg
 have hc63:=hc63 hg
 rw[M.Ad]at h
 subst h
 have e0:=Bz (ds:=ds) R F hg ha h0
 have e1:=Bz (ds:=ds) R F hg hb h1
 obtain⟨i,zv,hi,hiz,hzl,hza⟩:=HB hz
 simp only[sizeOf?,bytesOf?,hi,Option.map_some,Option.some.injEq]at hk hby
 have hsz:zv.cells.size=k:=by rw[←Array.length_toList,hzl];exact hzk.1
 have hr:=run_make (P:=E.P) w t e i zv ht hi hiz ik ik' l c hl0 hlc (by rw[hby];exact hbytes) hc63
 have hmc:(madeCells zv.cells (c.toNat*i.size)).toList=(List.replicate c.toNat zs).flatten:=by
  rw[hk,←hsz,La _ (by omega),hzl]
 refine⟨.slice (some ⟨w.heap.size,0,none⟩) l.toNat c.toNat,w.alloc (.cells (madeCells zv.cells (c.toNat*i.size)) e),by simp[execOp,ho,e0,e1,hr],⟨[w.heap.size],Moves.alloc _ _ _,?_,by simp,?_,?_⟩,fun hq=>(by simp[Hb,Op.quiet,ho]at hq),fun hq=>(by simp[Op.still,Hb,Op.quiet,ho]at hq)⟩
 ·have hlen:(List.replicate l.toNat (zs.map AV.lit)).length=l.toNat:=List.length_replicate
  have hcells:(((madeCells zv.cells (c.toNat*i.size)).toList.drop 0).take (l.toNat*k))=(List.replicate l.toNat zs).flatten:=by
   rw[hmc,List.drop_zero]
   have:c.toNat=l.toNat+(c.toNat -l.toNat):=by omega
   rw[this,←List.replicate_append_replicate,List.flatten_append]
   have h3:(List.replicate l.toNat zs).flatten.length=l.toNat*k:=by rw[EL,hzk.1]
   rw[←h3,List.take_left]
  have:=RV.own (C:=ctx E lam z st.hp.next) (w:=w.alloc (.cells (madeCells zv.cells (c.toNat*i.size)) e)) k (List.replicate l.toNat (zs.map AV.lit)) w.heap.size 0 c.toNat (madeCells zv.cells (c.toNat*i.size)) e []
   (heap_alloc_new w _) (by rw[size_madeCells,hk];omega) (by rw[hlen];omega) (by simp only[maxLen];omega) (fun x hx=>by rw[List.eq_of_mem_replicate hx];simp[hzk.1])
   (by rw[hlen,hcells,EM];exact RVs.lits _ (Dq _ _ hza _))
  rw[hlen]at this
  exact this
 ·intro b hb;simp only[List.mem_singleton]at hb;subst hb;simp
 ·exact CS.one trivial
end
end Go.VS
namespace Go.VS
section
variable{E:Env}{lam:Nat→Nat}{z:Nat→Prop}{fp:Ky→List Nat}{hd:Hands}{st:St}{tm:Array Value}{w:World}{ds:List Deferred}
theorem Ri{P:Program}{t:TypeId}{agg:Bool}(h:CY? P t=some agg)(w:World):(isAgg t).run P w=.ok agg w:=by
 unfold CY? at h
 unfold isAgg
 split at h
 ·rename_i hu;cases h;simp[run_underlying hu]
 ·rename_i hu;cases h;simp[run_underlying hu]
 ·rename_i d h1 h2 hu
  cases h
  simp only[Sem.run_bind,run_underlying hu,Result.andThen_ok]
  cases d<;>first|rfl|exact absurd hu (h1 _)|exact absurd hu (h2 _ _)
 ·cases h
theorem Jk{P:Program}{t:TypeId}{n:Nat}(h:sizeOf? P t=some n)(w:World):(sizeOf t).run P w=.ok n w:=by
 simp only[sizeOf?,Option.map_eq_some_iff]at h
 obtain⟨i,hi,h2⟩:=h
 simp[sizeOf,typeInfo,hi,h2]
def EG(agg:Bool)(m:List Value):Value:=if agg then .agg m.toArray else m.headD undef
theorem Ls{P:Program}{t:TypeId}{agg:Bool}{n:Nat}(ha:CY? P t=some agg)(hn:sizeOf? P t=some n)(h1:agg=true∨n=1)(w:World)(b o:Nat)(m:List Value)(hm:m.length=n)
  (hc:∀j v,m[j]?=some v→w.cell? ⟨b,o+j,none⟩=some v):(loadVar t ⟨b,o,none⟩).run P w=.ok (EG agg m) w:=by
 have hadd:∀j,(⟨b,o,none⟩:Addr).add j=⟨b,o+j,none⟩:=by intro j;unfold Addr.add;split<;>simp_all
 unfold loadVar
 simp only[Sem.run_bind,Ri ha,Result.andThen_ok]
 cases agg with
 |true=>
  simp only[if_true,Sem.run_bind,Jk hn,Result.andThen_ok]
  have:=run_loadCells_list (P:=P) (w:=w) ⟨b,o,none⟩ m (fun j v hj=>by rw[hadd];exact hc j v hj)
  rw[hm]at this
  simp[this,EG]
 |false=>
  rcases h1 with h1|h1
  ·cases h1
  ·subst h1
   match m,hm with
   |[v],_=>
    have:=hc 0 v rfl
    simp only[Nat.add_zero]at this
    simp[EG,this]
theorem Lc{C:Ctx}{agg:Bool}{l:List AV}{m:List Value}{f:List Nat}(h:RVs C w l m f)(h1:agg=true∨l.length=1):RSV C w (OO agg l) (EG agg m) f:=by
 cases agg with
 |true=>exact⟨m.toArray,rfl,by simpa using h⟩
 |false=>
  rcases h1 with h1|h1
  ·cases h1
  ·match l,h1,h with
   |[a],_,h=>obtain⟨v,rfl,h'⟩:=RVs.Bk h;exact h'
theorem Je{agg:Bool}{l:List AV}{m:List Value}(hl:l.length=m.length)(h1:agg=true∨l.length=1)(h:∀(j:Nat) (a:AV) (u:Value),l[j]?=some a→m[j]?=some u→AR st tm w lam a u):
  CS st tm w lam (OO agg l) (EG agg m):=by
 cases agg with
 |true=>
  intro j a u hj hu
  exact h j a u hj (by simpa[OO,EG,vcells]using hu)
 |false=>
  rcases h1 with h1|h1
  ·cases h1
  ·match l,m,h1,hl,h with
   |[a],[v],_,_,h=>exact CS.one (h 0 a v rfl rfl)
theorem sub_eq(l:List AV)(c n k:Nat)(h:l.length=k):sub l c n k=(l.drop c).take n:=by
 unfold sub
 split
 ·rename_i h1;obtain⟨rfl,rfl⟩:=h1;rw[List.drop_zero,List.take_of_length_le (by omega)]
 ·rfl
theorem AV.I5:∀(p:List Stp) (a:AV) (q:List Stp),a.at (p++q)=(a.at p).bind (·.at q)
 |[],a,q=>by simp[AV.at]
 |s::r,a,q=>by
  cases a with
  |sl τ k xs=>
   cases τ with
   |own=>
    simp only[List.cons_append,AV.at]
    split
    ·cases(xs[s.i]?).bind (·[s.c]?)with
     |none=>rfl
     |some a1=>simp only[Option.bind_some];exact AV.I5 r a1 q
    ·rfl
   |_=>simp[AV.at]
  |_=>simp[AV.at]
theorem Jz(w:World):∀(p:List Stp) (v:Value) (q:List Stp),AL w v (p++q)=(AL w v p).bind (AL w · q)
 |[],v,q=>by simp[AL]
 |s::r,v,q=>by
  match v with
  |.slice (some ad) len cap=>
   simp only[List.cons_append,AL]
   cases w.cell? ⟨ad.block,ad.off+s.i*s.k+s.c,none⟩with
   |none=>rfl
   |some u=>simp only[Option.bind_some];exact Jz w r u q
  |.slice none len cap=>simp[AL]
  |.bool _=>simp[AL]
  |.int _ _=>simp[AL]
  |.float _ _=>simp[AL]
  |.complex _ _ _=>simp[AL]
  |.string _=>simp[AL]
  |.pointer _=>simp[AL]
  |.map _=>simp[AL]
  |.chan _=>simp[AL]
  |.func _ _ _=>simp[AL]
  |.nilFunc=>simp[AL]
  |.iface _ _=>simp[AL]
  |.nilIface=>simp[AL]
  |.agg _=>simp[AL]
  |.tuple _=>simp[AL]
theorem Ax.I4(R:Ax E lam z fp hd st tm w){p:Place}{a:AV}(h:st.at p=some a):∃u f,conc st tm w lam p=some u∧RV (ctx E lam z st.hp.next) w a u f∧∀b,b∈f→b∈fp p.root.key:=by
 simp only[St.at]at h
 cases hr:st.root p.root with
 |none=>simp[hr]at h
 |some a0=>
  rw[hr]at h
  simp only[Option.bind_some]at h
  obtain⟨v,f1,fa,f2,hv,ra,hf,_⟩:=R.IK hr
  obtain⟨u,g1,fb,g2,hc,rb,hfa,_⟩:=RV.lens p.path ra h
  exact⟨u,fb,by simp[conc,hv,hc],rb,fun b hb=>by rw[hf,hfa];simp[hb]⟩
theorem Il(k:Nat):∀(xs:List (List AV)),(∀x∈xs,x.length=k)→∀(i c n:Nat),i<xs.length→c+n≤k→((xs.getD i []).drop c).take n=(xs.flatten.drop (i*k+c)).take n
 |[],_,i,c,n,hi,_=>by simp at hi
 |x::xs,h,0,c,n,_,hcn=>by
  have hx:=h x (by simp)
  simp only[List.getD_cons_zero,Nat.zero_mul,Nat.zero_add,List.flatten_cons]
  rw[List.drop_append_of_le_length (by omega),List.take_append_of_le_length (by simp;omega)]
 |x::xs,h,i+1,c,n,hi,hcn=>by
  have hx:=h x (by simp)
  have ih:=Il k xs (fun y hy=>h y (by simp[hy])) i c n (by simpa using hi) hcn
  simp only[List.getD_cons_succ,List.flatten_cons]
  rw[ih,List.drop_append,List.drop_eq_nil_of_le (as:=x) (by rw[hx,Nat.succ_mul];omega),List.nil_append,hx]
  congr 2
  rw[Nat.succ_mul];omega
theorem Iv{k:Nat}{xs:List (List AV)}(h:∀x∈xs,x.length=k){i:Nat}(hi:i<xs.length):(xs.getD i []).length=k:=by
 rw[List.getD_eq_getElem?_getD,List.getElem?_eq_getElem hi];exact h _ (List.getElem_mem hi)
def HP(mk:Nat→Nat→AV):AV→AV
 |.sl .own k xs=>mk k xs.length
 |a=>NY a
theorem Ct(mk:Nat→Nat→Nat→AV):∀(l:List AV) (j:Nat),(Ei mk j l).length=l.length
 |[],_=>rfl
 |a::l,j=>by simp[Ei,Ct mk l (j+1)]
theorem HN(mk:Nat→Nat→Nat→AV)(j:Nat)(a:AV)(l:List AV):Ei mk j (a::l)=HP (mk j) a::Ei mk (j+1) l:=by
 cases a with
 |sl τ k xs=>cases τ<;>rfl
 |_=>rfl
theorem IG(mk:Nat→Nat→Nat→AV):∀(l:List AV) (j i:Nat),(Ei mk j l)[i]?=(l[i]?).map (HP (mk (j+i)))
 |[],_,_=>by simp[Ei]
 |a::l,j,0=>by rw[HN];simp
 |a::l,j,i+1=>by
  rw[HN]
  simp only[List.getElem?_cons_succ]
  rw[IG mk l (j+1) i,show j+1+i=j+(i+1)from by omega]
theorem Tb{C:Ctx}{w:World}{a:AV}{v:Value}{f:List Nat}(h:RV C w a v f){mk:Nat→Nat→AV}(hmk:∀k n,∃p ver lo,mk k n=.ref p ver k lo n):RV C w (HP mk a) v []:=by
 cases a with
 |sl τ k xs=>
  cases τ with
  |own=>exact Qn h hmk
  |imm=>have:=h.D0 rfl;subst this;exact h
  |brw=>have:=h.D0 rfl;subst this;exact h
 |ref p ver k lo n=>exact .dead v h.EJ
 |adr p ver k i c=>exact .dead v h.EJ
 |_=>have:=h.D0 rfl;subst this;exact h
theorem IE{C:Ctx}{w:World}{mk:Nat→Nat→Nat→AV}(hmk:∀j k n,∃p ver lo,mk j k n=.ref p ver k lo n):∀{l:List AV} {m:List Value} {f:List Nat} (j:Nat),RVs C w l m f→RVs C w (Ei mk j l) m []
 |_,_,_,_,.nil=>.nil
 |_,_,_,j,.cons a v f l m g h t=>by
  rw[HN]
  exact .cons _ _ [] _ _ [] (Tb h (hmk j)) (IE hmk (j+1) t)
theorem UN{C:Ctx}{w:World}:∀{l:List AV} {m:List Value},RVs C w l m []→RVs C w (l.map NY) m []
 |_,_,h=>by
  generalize hf:([]:List Nat)=f at h
  induction h using RVs.rec (motive_1:=fun _ _ _ _=>True)with
  |nil=>exact .nil
  |cons a v f l m g h t _ ih=>
   have:=List.append_eq_nil_iff.1 hf.symm
   have h1:=this.1
   have h2:=this.2
   subst h1
   subst h2
   simp only[List.map_cons]
   refine .cons _ _ [] _ _ [] ?_ (ih rfl)
   cases a<;>first|exact h|exact .dead v h.EJ
  |_=>trivial
theorem AR.HP{mk:Nat→Nat→AV}{a:AV}{u:Value}(h:∀k xs,a=.sl .own k xs→AR st tm w lam (mk k xs.length) u):AR st tm w lam (VS.HP mk a) u:=by
 cases a with
 |sl τ k xs=>
  cases τ with
  |own=>exact h k xs rfl
  |_=>exact trivial
 |_=>exact trivial
theorem Wr(R:Ax E lam z fp hd st tm w)(F:Refs st tm w lam){o:Oper}{t:TypeId}{x:Operand}{a:Opd}{agg:Bool}{n:Nat}(ho:o.op=.load t x)(ha:AA E.P x=some a)(hagg:CY? E.P t=some agg)
  (hn:sizeOf? E.P t=some n) (h1n:agg=true∨n=1) {s:SV} {g:Bool} (hg:g=true) (h:(st.A5 g (.load agg n a)).holds (·=s)):OpR E lam z st tm ds w o s:=by
 simp only[St.A5,M.Aa]at h
 obtain⟨c,h1,h⟩:=Ba h
 obtain⟨h2,h3⟩:=CW R F hg ha h1 ds
 generalize hu:Act.eval ⟨tm,ds⟩ x=u at h2 h3
 have hrun:∀(b off:Nat) (m:List Value),u=.pointer (some ⟨b,off,none⟩)→m.length=n→(∀j v,m[j]?=some v→w.cell? ⟨b,off+j,none⟩=some v)→
   (execOp (Act.eval ⟨tm,ds⟩) o).run E.P w=.ok (.value (EG agg m)) w:=by
  intro b off m e1 hm hc
  have:=Ls hagg hn h1n w b off m hm hc
  simp[execOp,ho,hu,e1,Instr.loadAt,Instr.sureAddr,this]
 have takeGet:∀(cs:Array Value) (off n j:Nat) (v:Value),((cs.toList.drop off).take n)[j]?=some v→cs[off+j]?=some v:=fun cs off n j v hj=>(DS cs off n j v hj).1
 split at h
 ·
  rename_i o' c'
  cases hg':st.hp.get o' with
  |none=>simp only[hg']at h;exact h.elim
  |some l=>
   simp only[hg',M.Aa,M.Aj]at h
   obtain⟨hcn,h⟩:=h
   rw[M.Ad]at h
   subst h
   obtain⟨hlt,cs,e,f,hb,hr,hfp⟩:=R.keys (.o o') l hg'
   have hb':w.heap[lam o']?=some (.cells cs e (0,0)):=hb
   have hlen:=hr.length
   rw[sub_eq l c' n l.length rfl]
   obtain⟨f1,f2,_,hd1⟩:=hr.drop c'
   obtain⟨f3,f4,_,hd2⟩:=hd1.take n
   have hml:((cs.toList.drop c').take n).length=n:=by simp only[List.length_take,List.length_drop];omega
   have hll:((l.drop c').take n).length=n:=by simp only[List.length_take,List.length_drop];omega
   cases h2 with
   |ptr _ _ hlt'=>
    refine⟨_,w,hrun (lam o') c' ((cs.toList.drop c').take n) rfl hml (fun j v hj=>by rw[AE hb'];exact takeGet cs c' n j v hj),ROk.same ?_ ?_,fun hq=>(by simp[Hb,Op.quiet,ho]at hq),fun _=>rfl⟩
    ·exact Lc (IE (fun j k n=>⟨_,_,_,rfl⟩) 0 hd2) (by rw[Ct,hll];exact h1n)
    ·refine Je (by rw[Ct,hll,hml]) (by rw[Ct,hll];exact h1n) ?_
     intro j a' u' hj hu'
     rw[IG,Nat.zero_add]at hj
     cases hlj:((l.drop c').take n)[j]?with
     |none=>rw[hlj]at hj;exact nomatch hj
     |some a0=>
      simp only[hlj,Option.map_some,Option.some.injEq]at hj
      have hl2:l[c'+j]?=some a0:=by
       rw[List.getElem?_take]at hlj
       split at hlj
       ·rw[List.getElem?_drop]at hlj;exact hlj
       ·cases hlj
      obtain⟨m1,v,m2,q1,qa,q2,hm,hlm,_,_,ra,_⟩:=hr.nth hl2
      have hcv:cs[c'+j]?=some v:=by rw[←Array.getElem?_toList,hm,List.getElem?_append_right (by omega)];simp[hlm]
      have huv:u'=v:=by have:=takeGet cs c' n j u' hu';rw[hcv]at this;exact(Option.some.inj this).symm
      subst huv
      subst hj
      refine AR.HP fun k xs e0=>?_
      subst e0
      refine⟨Nat.le_refl _,fun _=>⟨xs,u',?_,?_,Win.self ra⟩⟩
      ·simp only[St.at,St.root,hg',Option.bind_some,hl2,AV.at]
      ·simp only[conc,AX,AE hb',hcv,Option.bind_some,AL]
 ·
  rename_i p v k i c'
  split at h
  ·rename_i k' xs hat
   simp only[M.Aa,M.Aj]at h
   obtain⟨hv,hkk,hi,hcn,h⟩:=h
   subst hkk
   have hi:=hi hg
   rw[M.Ad]at h
   subst h
   obtain⟨xs',b,off,len,cap,k1,k2,k3⟩:=(h3.Bk).2 hv
   rw[hat]at k1
   obtain rfl:xs=xs':=by simpa using k1
   obtain⟨u2,f,hcu,hru,_⟩:=R.I4 hat
   rw[k2]at hcu
   obtain rfl:_=u2:=Option.some.inj hcu
   cases hru with
   |shr _ _ _ _ _ _ _ _ _ ht=>exact absurd rfl ht
   |shrE _ _ _ _ ht=>exact absurd rfl ht
   |own _ _ _ _ _ cs e f hb hs hc hm hkl hr=>
    rw[sub_eq _ c' n k' (Iv hkl hi)]
    have hfl:=Il k' xs hkl i c' n hi hcn
    rw[hfl]
    obtain⟨f1,f2,_,hd1⟩:=hr.drop (i*k'+c')
    obtain⟨f3,f4,_,hd2⟩:=hd1.take n
    have hik:i*k'+k'≤xs.length*k':=by rw[←Nat.succ_mul];exact Nat.mul_le_mul_right _ hi
    have hcells:((((cs.toList.drop off).take (xs.length*k')).drop (i*k'+c')).take n)=(cs.toList.drop (off+i*k'+c')).take n:=by
     rw[List.drop_take,List.take_take,List.drop_drop,Nat.min_eq_left (by omega),Nat.add_assoc]
    rw[hcells]at hd2
    have hll:((xs.flatten.drop (i*k'+c')).take n).length=n:=by
     have:=BO k' xs hkl
     simp only[List.length_take,List.length_drop];omega
    have hml:((cs.toList.drop (off+i*k'+c')).take n).length=n:=by rw[←hd2.length];exact hll
    refine⟨_,w,hrun b (off+i*k'+c') _ k3 hml (fun j v hj=>by rw[AE hb];exact takeGet cs _ n j v hj),ROk.same ?_ ?_,fun hq=>(by simp[Hb,Op.quiet,ho]at hq),fun _=>rfl⟩
    ·exact Lc (IE (fun j k n=>⟨_,_,_,rfl⟩) 0 hd2) (by rw[Ct,hll];exact h1n)
    ·refine Je (by rw[Ct,hll,hml]) (by rw[Ct,hll];exact h1n) ?_
     intro j a' u' hj hu'
     rw[IG,Nat.zero_add]at hj
     rw[←hfl]at hj
     cases hlj:(((xs.getD i []).drop c').take n)[j]?with
     |none=>rw[hlj]at hj;exact nomatch hj
     |some a0=>
      simp only[hlj,Option.map_some,Option.some.injEq]at hj
      subst hj
      refine AR.HP fun k0 xs0 e0=>?_
      subst e0
      have hl2:(xs[i]?).bind (·[c'+j]?)=some (.sl .own k0 xs0):=by
       rw[List.getElem?_take]at hlj
       split at hlj
       ·rw[List.getElem?_drop]at hlj
        rw[List.getElem?_eq_getElem hi]
        rw[List.getD_eq_getElem?_getD,List.getElem?_eq_getElem hi]at hlj
        exact hlj
       ·cases hlj
      have hat2:st.at ⟨p.root,p.path++[⟨i,k',c'+j⟩]⟩=some (.sl .own k0 xs0):=by
       simp only[St.at]at hat⊢
       cases hr0:st.root p.root with
       |none=>simp[hr0]at hat
       |some a0=>
        rw[hr0]at hat
        simp only[Option.bind_some]at hat⊢
        rw[AV.I5,hat]
        simp only[Option.bind_some,AV.at,if_true,hl2]
      have hcu:cs[off+i*k'+c'+j]?=some u':=takeGet cs _ n j u' hu'
      have hconc:conc st tm w lam ⟨p.root,p.path++[⟨i,k',c'+j⟩]⟩=some u':=by
       simp only[conc]at k2⊢
       cases hrv:AX st tm w lam p.root with
       |none=>simp[hrv]at k2
       |some rv=>
        rw[hrv]at k2
        simp only[Option.bind_some]at k2⊢
        rw[Jz,k2]
        simp only[Option.bind_some,AL]
        rw[AE hb,show off+i*k'+(c'+j)=off+i*k'+c'+j from by omega,hcu]
        rfl
      refine⟨by rw[hv];exact Nat.le_refl _,fun _=>⟨xs0,u',hat2,hconc,?_⟩⟩
      obtain⟨u3,f',hcu3,hru3,_⟩:=R.I4 hat2
      rw[hconc]at hcu3
      obtain rfl:u'=u3:=Option.some.inj hcu3
      exact Win.self hru3
  ·exact h.elim
 ·
  rename_i k xs i c'
  simp only[M.Aa,M.Aj]at h
  obtain⟨hi,hcn,h⟩:=h
  have hi:=hi hg
  rw[M.Ad]at h
  subst h
  cases h2 with
  |iadr _ _ _ _ b off cs e fz hz hb hs hkl hr=>
   rw[sub_eq _ c' n k (Iv hkl hi)]
   have hfl:=Il k xs hkl i c' n hi hcn
   rw[hfl]
   obtain⟨f1,f2,hf12,hd1⟩:=hr.drop (i*k+c')
   rw[(List.append_eq_nil_iff.1 hf12.symm).2]at hd1
   obtain⟨f3,f4,hf34,hd2⟩:=hd1.take n
   rw[(List.append_eq_nil_iff.1 hf34.symm).1]at hd2
   have hik:i*k+k≤xs.length*k:=by rw[←Nat.succ_mul];exact Nat.mul_le_mul_right _ hi
   have hcells:((((cs.toList.drop off).take (xs.length*k)).drop (i*k+c')).take n)=(cs.toList.drop (off+i*k+c')).take n:=by
    rw[List.drop_take,List.take_take,List.drop_drop,Nat.min_eq_left (by omega),Nat.add_assoc]
   rw[hcells]at hd2
   have hll:((xs.flatten.drop (i*k+c')).take n).length=n:=by
    have:=BO k xs hkl
    simp only[List.length_take,List.length_drop];omega
   have hml:((cs.toList.drop (off+i*k+c')).take n).length=n:=by rw[←hd2.length];exact hll
   refine⟨_,w,hrun b (off+i*k+c') _ rfl hml (fun j v hj=>by rw[AE hb];exact takeGet cs _ n j v hj),ROk.same ?_ ?_,fun hq=>(by simp[Hb,Op.quiet,ho]at hq),fun _=>rfl⟩
   ·exact Lc (UN hd2) (by rw[List.length_map,hll];exact h1n)
   ·refine Je (by rw[List.length_map,hll,hml]) (by rw[List.length_map,hll];exact h1n) ?_
    intro j a' u' hj _
    rw[List.getElem?_map]at hj
    cases hlj:((xs.flatten.drop (i*k+c')).take n)[j]?with
    |none=>rw[hlj]at hj;exact nomatch hj
    |some a0=>
     simp only[hlj,Option.map_some,Option.some.injEq]at hj
     subst hj
     cases a0<;>exact trivial
 ·exact h.elim
theorem Og{P:Program}{t:TypeId}{agg:Bool}{n:Nat}(ha:CY? P t=some agg)(hn:sizeOf? P t=some n)(h1:agg=true∨n=1)(w:World)(cs:Array Value)(off:Nat)(hc:off+n≤cs.size):
  (part t cs off).run P w=.ok (EG agg ((cs.toList.drop off).take n)) w:=by
 unfold part
 simp only[Sem.run_bind,Ri ha,Result.andThen_ok]
 cases agg with
 |true=>
  simp only[if_true,Sem.run_bind,Jk hn,Result.andThen_ok,Sem.run_pure,EG]
  congr 2
  apply Array.ext'
  simp[Array.toList_extract,List.extract_eq_take_drop]
 |false=>
  rcases h1 with h1|h1
  ·cases h1
  ·subst h1
   have hlt:off<cs.size:=by omega
   have:cs[off]?=some cs[off]:=Array.getElem?_eq_getElem hlt
   have e:(cs.toList.drop off).take 1=[cs[off]]:=by
    have hd:cs.toList.drop off=cs[off]::cs.toList.drop (off+1):=by
     rw[←Array.getElem_toList];exact List.drop_eq_getElem_cons (by simpa using hlt)
    rw[hd];rfl
   simp[this,e,EG]
theorem Lw{C:Ctx}{l:List AV}{m:List Value}(h:RVs C w l m [])(off n:Nat):RVs C w ((l.drop off).take n) ((m.drop off).take n) []:=by
 obtain⟨f1,f2,hf,h1⟩:=h.drop off
 rw[(List.append_eq_nil_iff.1 hf.symm).2]at h1
 obtain⟨f3,f4,hf2,h2⟩:=h1.take n
 rw[(List.append_eq_nil_iff.1 hf2.symm).1]at h2
 exact h2
theorem T7{l:List AV}{cs:Array Value}{agg:Bool}{off n:Nat}(hr:RVs (ctx E lam z st.hp.next) w l cs.toList [])(h3:CS st tm w lam (.agg l) (.agg cs))(hn:off+n≤l.length)(h1:agg=true∨n=1):
  ROk E lam z st tm w (OO agg (sub l off n l.length)) (EG agg ((cs.toList.drop off).take n)) w:=by
 rw[sub_eq l off n l.length rfl]
 have hs:=Lw hr off n
 have hll:((l.drop off).take n).length=n:=by simp only[List.length_take,List.length_drop];omega
 refine ROk.same (Lc hs (by rw[hll];exact h1)) (Je hs.length (by rw[hll];exact h1) ?_)
 intro j a u hj hu
 rw[List.getElem?_take]at hj hu
 split at hj
 ·rename_i hjn
  rw[if_pos hjn]at hu
  rw[List.getElem?_drop]at hj hu
  exact h3 (off+j) a u hj hu
 ·cases hj
theorem Zc(R:Ax E lam z fp hd st tm w)(F:Refs st tm w lam){o:Oper}{t:TypeId}{x:Operand}{a:Opd}{f n:Nat}{fs:Array Field}{fd:Field}{agg:Bool}(ho:o.op=.field t x f)(ha:AA E.P x=some a)
  (ht:E.P.underlying t=some (.struct fs)) (hf:fs[f]?=some fd) (hagg:CY? E.P fd.type=some agg) (hn:sizeOf? E.P fd.type=some n) (h1:agg=true∨n=1) {s:SV} {g:Bool} (hg:g=true)
  (h:(st.A5 g (.fld agg fd.offset n a)).holds (·=s)):OpR E lam z st tm ds w o s:=by
 simp only[St.A5,M.Aa]at h
 rw[M.Aw]at h
 obtain⟨s0,h0,h⟩:=h
 obtain⟨h2,h3⟩:=CW R F hg ha h0 ds
 generalize hu:Act.eval ⟨tm,ds⟩ x=u at h2 h3
 split at h
 ·rename_i l
  simp only[M.Aa,M.Aj]at h
  obtain⟨hlen,h⟩:=h
  rw[M.Ad]at h
  subst h
  obtain⟨cs,rfl,hr⟩:=h2
  have hsz:fd.offset+n≤cs.size:=by rw[←Array.length_toList,←hr.length];exact hlen
  exact OpR.quiet (v:=_) (fun w=>by simp[execOp,ho,hu,Instr.field,run_underlying ht,hf,asAgg,Og hagg hn h1 w cs fd.offset hsz]) (T7 hr h3 hlen h1)
 ·exact h.elim
theorem Zf(R:Ax E lam z fp hd st tm w)(F:Refs st tm w lam){o:Oper}{t e:TypeId}{x i:Operand}{a b:Opd}{len k:Nat}{agg:Bool}(ho:o.op=.index t x i)(ha:AA E.P x=some a)(hb:AA E.P i=some b)
  (ht:E.P.underlying t=some (.array len e)) (hagg:CY? E.P e=some agg) (hk:sizeOf? E.P e=some k) (h1:agg=true∨k=1) {s:SV} {g:Bool} (hg:g=true)
  (h:(st.A5 g (.ixV agg len k a b)).holds (·=s)):OpR E lam z st tm ds w o s:=by
 simp only[St.A5,M.Aa]at h
 obtain⟨ik,n,h0,h⟩:=Eu h
 rw[M.Aw]at h
 obtain⟨s0,h01,h⟩:=h
 obtain⟨h2,h3⟩:=CW R F hg ha h01 ds
 have e0:=Bz (ds:=ds) R F hg hb h0
 generalize hu:Act.eval ⟨tm,ds⟩ x=u at h2 h3
 split at h
 ·rename_i l
  simp only[M.Aa,M.Aj]at h
  obtain⟨hn,hlen,h⟩:=h
  obtain⟨hn0,hn1⟩:=hn hg
  rw[M.Ad]at h
  subst h
  obtain⟨cs,rfl,hr⟩:=h2
  have hik:n.toNat*k+k≤l.length:=by
   have:n.toNat+1≤len:=by omega
   have:=Nat.mul_le_mul_right k this
   rw[Nat.succ_mul]at this
   omega
  have hsz:n.toNat*k+k≤cs.size:=by rw[←Array.length_toList,←hr.length];exact hik
  exact OpR.quiet (v:=_) (fun w=>by simp[execOp,ho,hu,e0,Instr.index,asIntOf,run_underlying ht,hn0,hn1,Jk hk,Og hagg hk h1 w cs _ hsz]) (T7 hr h3 hik h1)
 ·exact h.elim
def Good(E:Env)(lam:Nat→Nat)(z:Nat→Prop)(st:St)(tm:Array Value)(w:World)(l:List AV)(m:List Value):Prop:=
 RVs (ctx E lam z st.hp.next) w l m []∧∀(j:Nat) (a:AV) (u:Value),l[j]?=some a→m[j]?=some u→AR st tm w lam a u
theorem RVs.set{C:Ctx}{l:List AV}{m:List Value}(h:RVs C w l m []){a:AV}{v:Value}(ha:RV C w a v [])(j:Nat):RVs C w (l.set j a) (m.set j v) []:=by
 rcases Nat.lt_or_ge j l.length with hj|hj
 ·obtain⟨m1,u,m2,f1,fa,f2,hm,hl,hf,r1,_,r2⟩:=h.nth (List.getElem?_eq_getElem hj)
  have h1:=List.append_eq_nil_iff.1 hf.symm
  have h2:=List.append_eq_nil_iff.1 h1.2
  rw[h1.1]at r1
  rw[h2.2]at r2
  rw[F7 l j l[j] a (List.getElem?_eq_getElem hj),hm,←hl,Kf,hl]
  exact r1.append (RVs.cons _ _ [] _ _ [] ha r2)
 ·rw[List.set_eq_of_length_le hj,List.set_eq_of_length_le (by rw[←h.length];exact hj)];exact h
theorem Good.set{l:List AV}{m:List Value}(h:Good E lam z st tm w l m){a:AV}{v:Value}(ha:RV (ctx E lam z st.hp.next) w a v [])(hr:AR st tm w lam a v)(j:Nat):Good E lam z st tm w (l.set j a) (m.set j v):=by
 refine⟨h.1.set ha j,?_⟩
 intro i b u hb hu
 rw[List.getElem?_set]at hb hu
 by_cases hij:j=i
 ·subst hij
  rw[if_pos rfl]at hb hu
  split at hb
  ·split at hu
   ·simp only[Option.some.injEq]at hb hu;subst hb;subst hu;exact hr
   ·cases hu
  ·cases hb
 ·rw[if_neg hij]at hb hu
  exact h.2 i b u hb hu
theorem Good.setCells:∀(sc:List AV) (vc:List Value) {l:List AV} {m:List Value} (off:Nat),Good E lam z st tm w l m→Good E lam z st tm w sc vc→Good E lam z st tm w (setCells l off sc) (VS.setCells m off vc)
 |[],vc,l,m,off,h,hs=>by cases vc with
  |nil=>exact h
  |cons v vc=>have:=hs.1.length;simp at this
 |a::sc,vc,l,m,off,h,hs=>by
  cases vc with
  |nil=>have:=hs.1.length;simp at this
  |cons v vc=>
   obtain⟨h1,h2⟩:=hs
   have h2a:=h2 0 a v rfl rfl
   generalize hf:([]:List Nat)=f at h1
   cases h1 with
   |cons _ _ f _ _ g' ha ht=>
    have hfg:=List.append_eq_nil_iff.1 hf.symm
    rw[hfg.1]at ha
    rw[hfg.2]at ht
    exact Good.setCells sc vc (off+1) (h.set ha h2a off) ⟨ht,fun j b u hb hu=>h2 (j+1) b u hb hu⟩
theorem JT:∀(vs:List Value) (cells:Array Value) (off k:Nat),((vs.zipIdx k).foldl (fun cs (p:Value×Nat)=>cs.setIfInBounds (off+p.2) p.1) cells).toList=setCells cells.toList (off+k) vs
 |[],cells,off,k=>rfl
 |v::vs,cells,off,k=>by
  simp only[List.zipIdx_cons,List.foldl_cons,VS.setCells]
  rw[JT vs _ off (k+1),Array.toList_setIfInBounds]
  rfl
theorem H8{α:Type}:∀(vs:List α) (l:List α) (off:Nat),(setCells l off vs).length=l.length
 |[],_,_=>rfl
 |v::vs,l,off=>by simp only[VS.setCells];rw[H8 vs];simp
theorem GG{C:Ctx}{s:SV}{v:Value}{f:List Nat}(h:RSV C w s v f):v.cells.toList=vcells s v:=by
 cases s with
 |one a=>have:=RV.EJ h;cases v<;>first|rfl|simp[Value.oneCell']at this
 |agg l=>obtain⟨cs,rfl,_⟩:=h;rfl
theorem TG(R:Ax E lam z fp hd st tm w)(F:Refs st tm w lam){g:Bool}(hg:g=true){place:Nat→Option (Nat×Nat)}{len:Nat}:∀(ps:List (Nat×Operand)) (l:List (Nat×Nat×Opd)) (cells cells':List AV) (arr:Array Value),
  partsOf E.P place len ps=some l→(FW st g cells l).holds (·=cells')→Good E lam z st tm w cells arr.toList→arr.size=len→
  ∃arr',Instr.fill place arr (ps.map fun(p:Nat×Operand)=>(p.1,Act.eval ⟨tm,ds⟩ p.2))=some arr'∧Good E lam z st tm w cells' arr'.toList
 |[],l,cells,cells',arr,hp,h,hG,hlen=>by
  simp only[partsOf,Option.some.injEq]at hp
  subst hp
  simp only[FW]at h
  rw[M.Ad]at h
  subst h
  exact⟨arr,rfl,hG⟩
 |(i,x)::ps,l,cells,cells',arr,hp,h,hG,hlen=>by
  simp only[partsOf]at hp
  split at hp
  case h_2=>cases hp
  rename_i off n y l' hi hy hl'
  split at hp
  case isFalse=>cases hp
  rename_i hon
  simp only[Option.some.injEq]at hp
  subst hp
  simp only[FW,M.Aa]at h
  rw[M.Aw]at h
  obtain⟨s,h0,h⟩:=h
  obtain⟨h2,h3⟩:=CW R F hg hy h0 ds
  split at h
  case isFalse=>exact h.elim
  rename_i hsn
  have hvc:=GG h2
  have hvs:(Act.eval ⟨tm,ds⟩ x).cells.size=n:=by rw[←Array.length_toList,hvc,←h2.cells.length,hsn]
  have hG':Good E lam z st tm w (setCells cells off s.cells) (VS.setCells arr.toList off (vcells s (Act.eval ⟨tm,ds⟩ x))):=hG.setCells _ _ off ⟨h2.cells,h3⟩
  have hfold:(((Act.eval ⟨tm,ds⟩ x).cells.zipIdx.foldl (fun cs (c,j)=>cs.setIfInBounds (off+j) c) arr)).toList=VS.setCells arr.toList off (vcells s (Act.eval ⟨tm,ds⟩ x)):=by
   rw[←Array.foldl_toList,Array.toList_zipIdx,hvc]
   exact JT _ arr off 0
  rw[←hfold]at hG'
  obtain⟨arr',ha',hG2⟩:=TG R F hg ps l' _ cells' _ hl' h hG' (by
   rw[←Array.length_toList,hfold,H8,Array.length_toList];exact hlen)
  refine⟨arr',?_,hG2⟩
  simp only[List.map_cons,Instr.fill,hi]
  rw[if_neg (by simp[hvs];omega)]
  exact ha'
theorem UK(l:List Value)(h:l.all Value.oneCell'=true):Good E lam z st tm w (l.map .lit) l:=by
 refine⟨RVs.lits l h,?_⟩
 intro j a u hj _
 rw[List.getElem?_map]at hj
 cases hl:l[j]?with
 |none=>rw[hl]at hj;exact nomatch hj
 |some v=>rw[hl]at hj;simp at hj;subst hj;exact trivial
theorem Uc(R:Ax E lam z fp hd st tm w)(F:Refs st tm w lam){o:Oper}{t:TypeId}{ps:Array (Nat×Operand)}{zs:List Value}{l:List (Nat×Nat×Opd)}{place:Nat→Option (Nat×Nat)}(ho:o.op=.build t ps)
  (hz:zeroOf? E.P t=some zs) (hl:partsOf E.P place zs.length ps.toList=some l)
  (hplace:(∃fs places,E.P.underlying t=some (.struct fs)∧fs.toList.mapM (fun f=>(E.P.info? f.type).map fun i=>(f.offset,i.size))=some places∧place=(places.toArray[·]?))∨
   ∃n e k,E.P.underlying t=some (.array n e)∧sizeOf? E.P e=some k∧place=fun i=>some (i*k,k)) {s:SV} {g:Bool} (hg:g=true)
  (h:(st.A5 g (.build zs l)).holds (·=s)):OpR E lam z st tm ds w o s:=by
 simp only[St.A5,M.Aa]at h
 rw[M.Aw]at h
 obtain⟨cells',h0,h⟩:=h
 rw[M.Ad]at h
 subst h
 obtain⟨it,zv,hit,hzv,hzl,hza⟩:=HB hz
 obtain⟨arr',ha',hG⟩:=TG (ds:=ds) R F hg ps.toList l _ cells' zv.cells hl h0 (by rw[hzl];exact UK zs hza) (by rw[←Array.length_toList,hzl])
 have hb:E.P.built t (ps.map fun(i,x)=>(i,Act.eval ⟨tm,ds⟩ x)).toList=some arr':=by
  have e:(ps.map fun(i,x)=>(i,Act.eval ⟨tm,ds⟩ x)).toList=ps.toList.map fun(p:Nat×Operand)=>(p.1,Act.eval ⟨tm,ds⟩ p.2):=by rw[Array.toList_map]
  unfold Program.built
  rcases hplace with⟨fs,places,hu,hp,rfl⟩|⟨n,e',k,hu,hk,rfl⟩
  ·simp only[hit,hu,hzv,hp,e];exact ha'
  ·simp only[sizeOf?,Option.map_eq_some_iff]at hk
   obtain⟨ie,hie,hk⟩:=hk
   simp only[hit,hu,hzv,hie,e,hk];exact ha'
 refine OpR.quiet (v:=.agg arr') (fun w=>by simp[execOp,ho,run_build w t _ arr' hb]) (ROk.same ⟨arr',rfl,hG.1⟩ (fun j a u hj hu=>hG.2 j a u hj hu))
end
end Go.VS
namespace Go.VS
section
variable{E:Env}{lam:Nat→Nat}{z:Nat→Prop}{fp:Ky→List Nat}{hd:Hands}{st:St}{tm:Array Value}{w:World}{ds:List Deferred}
theorem TD{P:Program}{op:BinOp}{t:TypeId}{x y:Operand}{a b v:Value}{p:Prop}(hv:QO op a b true=some (p,v))(hp:p)(w:World):
  (do eqGuard op t x y a b;binOp op t a b:Sem Value).run P w=.ok v w∧v.oneCell'=true:=by
 unfold QO at hv
 split at hv
 ·rename_i k m k' n
  split at hv<;>first
   |(
     split at hv
     case isFalse=>cases hv
     rename_i hk
     subst hk
     simp only[Option.some.injEq,Prod.mk.injEq]at hv
     obtain⟨rfl,rfl⟩:=hv
     refine⟨?_,rfl⟩
     first
      |(simp[eqGuard,binOp,Op.intArith];done)
      |(simp[eqGuard,binOp,Op.intCmp];done)
      |(simp[eqGuard,binOp,Op.intBits];done)
      |(simp[eqGuard,binOp,Op.intDiv,hp trivial];done))
   |(
     simp only[Option.some.injEq,Prod.mk.injEq]at hv
     obtain⟨rfl,rfl⟩:=hv
     have hp':=hp trivial
     refine⟨?_,rfl⟩
     simp[eqGuard,binOp,Op.shift,Int.not_lt.2 hp'])
 ·rename_i c d
  split at hv<;>first
   |(
     simp only[Option.some.injEq,Prod.mk.injEq]at hv
     obtain⟨rfl,rfl⟩:=hv
     refine⟨?_,rfl⟩
     simp[eqGuard,binOp,Op.stringOp,ByteArray.toList_eq]
     done)
   |(
     simp only[Option.some.injEq,Prod.mk.injEq]at hv
     obtain⟨rfl,rfl⟩:=hv
     refine⟨?_,rfl⟩
     have hp':=hp trivial
     have hmax:¬(((c.size+d.size:Nat):Int)>IntKind.i64.max):=by
      have:IntKind.i64.max=9223372036854775807:=by decide
      rw[this];omega
     have hcat:c++d=⟨c.data++d.data⟩:=by
      apply ByteArray.ext;simp
     simp only[eqGuard,binOp,Op.stringOp,if_neg hmax,hcat]
     simp)
   |cases hv
 ·cases hv
theorem Gv{α:Type}(zs:List α):∀n,(List.replicate n zs).flatten.length=n*zs.length
 |0=>by simp
 |n+1=>by simp[List.replicate_succ,Gv zs n,Nat.succ_mul];omega
def valOf(P:Program)(t:TypeId)(m:List Value):Value:=EG ((CY? P t).getD false) m
theorem Ij:∀{ks:List CK} {l m:List AV} {b:Bool},BF ks l m=some b→l.length=ks.length∧m.length=ks.length
 |[],[],[],_,_=>⟨rfl,rfl⟩
 |[],[],_::_,_,h=>by simp[BF]at h
 |[],_::_,_,_,h=>by simp[BF]at h
 |_::_,[],_,_,h=>by simp[BF]at h
 |_::_,_::_,[],_,h=>by simp[BF]at h
 |k::ks,a::l,c::m,b,h=>by
  simp only[BF]at h
  split at h
  ·rename_i h2;have:=Ij h2;simp[this]
  ·cases h
theorem Gi:∀(ks1:List CK) {ks2:List CK} {l m:List AV} {b:Bool},BF (ks1++ks2) l m=some b→
  ∃b1 b2,BF ks1 (l.take ks1.length) (m.take ks1.length)=some b1∧BF ks2 (l.drop ks1.length) (m.drop ks1.length)=some b2∧b=(b1&&b2)
 |[],_,l,m,b,h=>⟨true,b,rfl,h,by simp⟩
 |k::ks1,ks2,l,m,b,h=>by
  match l,m with
  |a::l,c::m=>
   simp only[List.cons_append,BF]at h
   split at h
   ·rename_i x y hx hy
    simp only[Option.some.injEq]at h
    obtain⟨b1,b2,h1,h2,h3⟩:=Gi ks1 hy
    subst h
    refine⟨x&&b1,b2,?_,h2,by rw[h3,Bool.and_assoc]⟩
    simp only[List.length_cons,List.take_succ_cons,BF,hx,h1]
   ·cases h
  |[],_=>simp[BF]at h
  |_::_,[]=>simp[BF]at h
theorem flat_agg{P:Program}{d:Nat}{t:TypeId}{ks:List CK}(h:E5 P d t=some ks):∃agg,CY? P t=some agg∧(agg=true∨ks.length=1):=by
 cases d with
 |zero=>simp[E5]at h
 |succ d=>
  simp only[E5]at h
  split at h
  ·rename_i hu;cases h;exact⟨false,by simp[CY?,hu],.inr rfl⟩
  ·rename_i hu;cases h;exact⟨false,by simp[CY?,hu],.inr rfl⟩
  ·rename_i hu;cases h;exact⟨false,by simp[CY?,hu],.inr rfl⟩
  ·rename_i hu;exact⟨true,by simp[CY?,hu],.inl rfl⟩
  ·rename_i hu;exact⟨true,by simp[CY?,hu],.inl rfl⟩
  ·cases h
theorem Li{P:Program}{d:Nat}{t:TypeId}{ks:List CK}(h:E5 P d t=some ks)(hn:sizeOf? P t=some ks.length)(w:World)(cs:Array Value)(off:Nat)(hc:off+ks.length≤cs.size):
  (part t cs off).run P w=.ok (valOf P t ((cs.toList.drop off).take ks.length)) w:=by
 obtain⟨agg,h1,h2⟩:=flat_agg h
 rw[Og h1 hn h2 w cs off hc]
 simp[valOf,h1]
theorem Sz{C:Ctx}{u:World}:∀(d:Nat) {t:TypeId} {ks:List CK} {D:Nat} {l m:List AV} {xs ys:List Value} {b:Bool},E5 C.P d t=some ks→d≤D→RVs C w l xs []→RVs C w m ys []→BF ks l m=some b→
  (Op.equalIn (D+1) t (valOf C.P t xs) (valOf C.P t ys)).run C.P u=.ok b u
 |0,_,_,_,_,_,_,_,_,hf,_,_,_,_=>by simp[E5]at hf
 |d+1,t,ks,D,l,m,xs,ys,b,hf,hD,hx,hy,he=>by
  have hl:=Ij he
  obtain⟨D,rfl⟩:∃D',D=D'+1:=⟨D -1,by omega⟩
  have one:∀ck,ks=[ck]→∃a c u v,l=[a]∧m=[c]∧xs=[u]∧ys=[v]∧RV C w a u []∧RV C w c v []∧JS ck a c=some b:=by
   rintro ck rfl
   match l,m,hl with
   |[a],[c],_=>
    obtain⟨u,rfl,hu⟩:=RVs.Bk hx
    obtain⟨v,rfl,hv⟩:=RVs.Bk hy
    refine⟨a,c,u,v,rfl,rfl,rfl,rfl,hu,hv,?_⟩
    simp only[BF]at he
    split at he
    ·rename_i x y h1 h2
     simp only[Option.some.injEq]at h2 he
     subst h2
     rw[h1,←he];simp
    ·cases he
  simp only[E5]at hf
  split at hf
  ·rename_i k hu
   cases hf
   obtain⟨a,c,u,v,rfl,rfl,rfl,rfl,ha,hc,h1⟩:=one .int rfl
   unfold JS at h1
   split at h1
   ·split at h1
    ·rename_i k1 p k2 q hk
     subst hk
     obtain⟨rfl,_⟩:=FV ha
     obtain⟨rfl,_⟩:=FV hc
     cases h1
     simp[valOf,EG,CY?,hu,Op.equalIn,run_underlying hu]
    ·cases h1
   ·contradiction
   ·contradiction
   ·cases h1
  ·rename_i hu
   cases hf
   obtain⟨a,c,u,v,rfl,rfl,rfl,rfl,ha,hc,h1⟩:=one .str rfl
   unfold JS at h1
   split at h1
   ·contradiction
   ·obtain⟨rfl,_⟩:=FV ha
    obtain⟨rfl,_⟩:=FV hc
    cases h1
    simp[valOf,EG,CY?,hu,Op.equalIn,run_underlying hu,beq_toListBytes,ByteArray.toList_eq]
   ·contradiction
   ·cases h1
  ·rename_i hu
   cases hf
   obtain⟨a,c,u,v,rfl,rfl,rfl,rfl,ha,hc,h1⟩:=one .bool rfl
   unfold JS at h1
   split at h1
   ·contradiction
   ·contradiction
   ·obtain⟨rfl,_⟩:=FV ha
    obtain⟨rfl,_⟩:=FV hc
    cases h1
    simp[valOf,EG,CY?,hu,Op.equalIn,run_underlying hu]
   ·cases h1
  ·rename_i fs hu
   split at hf
   case isTrue=>cases hf
   rename_i hst
   have hagg:valOf C.P t xs=.agg xs.toArray∧valOf C.P t ys=.agg ys.toArray:=by simp[valOf,EG,CY?,hu]
   rw[hagg.1,hagg.2]
   have hfo:C.P.fieldsOf t=fs:=by simp[Program.fieldsOf,hu]
   rw[run_equalIn_struct u (D+1) t _ _ (by rw[hfo];exact hu) (by simpa using hst),hfo]
   have key:∀(fl:List Field) (off:Nat) (ks:List CK) (b:Bool),HG C.P (E5 C.P d) off fl=some ks→off+ks.length≤xs.length→off+ks.length≤ys.length→
     BF ks (l.drop off) (m.drop off)=some b→(Op.eqFields (D+1) xs.toArray ys.toArray fl).run C.P u=.ok b u:=by
    intro fl
    induction fl with
    |nil=>
     intro off ks b h1 _ _ h2
     cases h1
     match l.drop off,m.drop off,h2 with
     |[],[],h2=>cases h2;rfl
     |[],_::_,h2=>simp[BF]at h2
     |_::_,_,h2=>simp[BF]at h2
    |cons f fl ih=>
     intro off ks b h1 hxl hyl h2
     simp only[HG]at h1
     split at h1
     case isFalse=>cases h1
     rename_i hn
     simp only[Bool.and_eq_true,bne_iff_ne,ne_eq,beq_iff_eq]at hn
     obtain⟨hn1,hn2⟩:=hn
     split at h1
     case h_2=>cases h1
     rename_i ks1 hks1
     split at h1
     case isFalse=>cases h1
     rename_i hsz
     simp only[Option.map_eq_some_iff]at h1
     obtain⟨ks2,hks2,rfl⟩:=h1
     rw[List.length_append]at hxl hyl
     obtain⟨b1,b2,e1,e2,rfl⟩:=Gi ks1 h2
     rw[List.drop_drop,List.drop_drop]at e2
     have hr:=Sz (u:=u) d hks1 (by omega:d≤D) (Lw hx off ks1.length) (Lw hy off ks1.length) e1
     have px:=Li hks1 hsz u xs.toArray f.offset (by rw[hn2];simpa using(by omega:off+ks1.length≤xs.length))
     have py:=Li hks1 hsz u ys.toArray f.offset (by rw[hn2];simpa using(by omega:off+ks1.length≤ys.length))
     rw[hn2]at px py
     simp only[Op.eqFields,ne_eq,hn1,not_false_eq_true,if_true,Sem.run_bind,hn2,px,py,Result.andThen_ok,hr]
     cases b1 with
     |false=>simp
     |true=>simpa using ih (off+ks1.length) ks2 b2 hks2 (by omega) (by omega) e2
   have:=key fs.toList 0 ks b hf (by rw[Nat.zero_add,←hx.length,hl.1];exact Nat.le_refl _) (by rw[Nat.zero_add,←hy.length,hl.2];exact Nat.le_refl _) he
   exact this
  ·rename_i n e hu
   split at hf
   case h_2=>cases hf
   rename_i k hk
   split at hf
   case isFalse=>cases hf
   rename_i hsz
   cases hf
   have hagg:valOf C.P t xs=.agg xs.toArray∧valOf C.P t ys=.agg ys.toArray:=by simp[valOf,EG,CY?,hu]
   rw[hagg.1,hagg.2]
   have hsz':=hsz
   simp only[sizeOf?,Option.map_eq_some_iff]at hsz'
   obtain⟨i,hi,hi2⟩:=hsz'
   have hco:C.P.cellsOf e=k.length:=by simp[Program.cellsOf,hi,hi2]
   rw[run_equalIn_array u (D+1) xs.toArray ys.toArray hu hi,hco,List.range_eq_range']
   have key:∀(cnt j:Nat) (b:Bool),(j+cnt)*k.length≤xs.length→(j+cnt)*k.length≤ys.length→BF (List.replicate cnt k).flatten (l.drop (j*k.length)) (m.drop (j*k.length))=some b→
     (Op.eqItems (D+1) e k.length xs.toArray ys.toArray (List.range' j cnt)).run C.P u=.ok b u:=by
    intro cnt
    induction cnt with
    |zero=>
     intro j b _ _ h2
     match l.drop (j*k.length),m.drop (j*k.length),h2 with
     |[],[],h2=>cases h2;rfl
     |[],_::_,h2=>simp[BF]at h2
     |_::_,_,h2=>simp[BF]at h2
    |succ cnt ih=>
     intro j b hxl hyl h2
     rw[List.replicate_succ,List.flatten_cons]at h2
     obtain⟨b1,b2,e1,e2,rfl⟩:=Gi k h2
     rw[List.drop_drop,List.drop_drop]at e2
     have hj:j*k.length+k.length≤(j+(cnt+1))*k.length:=by
      rw[←Nat.succ_mul];exact Nat.mul_le_mul_right _ (by omega)
     have hr:=Sz (u:=u) d hk (by omega:d≤D) (Lw hx (j*k.length) k.length) (Lw hy (j*k.length) k.length) e1
     have px:=Li hk hsz u xs.toArray (j*k.length) (by simpa using(by omega:j*k.length+k.length≤xs.length))
     have py:=Li hk hsz u ys.toArray (j*k.length) (by simpa using(by omega:j*k.length+k.length≤ys.length))
     simp only[List.range'_succ,Op.eqItems,Sem.run_bind,px,py,Result.andThen_ok,hr]
     cases b1 with
     |false=>simp
     |true=>
      have:=ih (j+1) b2 (by rw[show j+1+cnt=j+(cnt+1)from by omega];exact hxl) (by rw[show j+1+cnt=j+(cnt+1)from by omega];exact hyl) (by rw[Nat.succ_mul];exact e2)
      simpa using this
   have hll:(List.replicate n k).flatten.length=n*k.length:=Gv k n
   exact key n 0 b (by rw[Nat.zero_add,←hx.length,hl.1,hll];exact Nat.le_refl _) (by rw[Nat.zero_add,←hy.length,hl.2,hll];exact Nat.le_refl _) (by simpa using he)
  ·cases hf
theorem Zb(R:Ax E lam z fp hd st tm w)(F:Refs st tm w lam){o:Oper}{op:BinOp}{t u:TypeId}{x y:Operand}{aop:AOp}(ho:o.op=.binOp op t x y u)(ha:Mr E.P op t x y=some aop){s:SV}{g:Bool}(hg:g=true)
  (h:(st.A5 g aop).holds (·=s)):OpR E lam z st tm ds w o s:=by
 have plain:∀(a b:Opd),AA E.P x=some a→AA E.P y=some b→(st.A5 g (.bin op a b)).holds (·=s)→OpR E lam z st tm ds w o s:=by
  intro a b hx hy h
  simp only[St.A5,M.Aa]at h
  rw[M.Aw]at h
  obtain⟨s1,h1,h⟩:=h
  rw[M.Aw]at h
  obtain⟨s2,h2,h⟩:=h
  split at h
  ·rename_i va vb
   rw[M.Aa,M.Iy]at h
   obtain⟨p,v,hv,hp,h⟩:=h
   rw[M.Ad]at h
   subst h
   have e1:=Bz (ds:=ds) R F hg hx h1
   have e2:=Bz (ds:=ds) R F hg hy h2
   rw[hg]at hv
   have h1c:=(TD (t:=t) (P:=E.P) (x:=x) (y:=y) hv hp w).2
   have hr:=fun w=>(TD (t:=t) (P:=E.P) (x:=x) (y:=y) hv hp w).1
   refine OpR.quiet (v:=v) (fun w=>?_) (ROk.lit h1c)
   simp only[execOp,ho,e1,e2,Sem.run_bind,hr,Result.andThen_ok]
   rfl
  ·exact h.elim
 have aggs:∀(a b:Opd) (ks:List CK),AA E.P x=some a→AA E.P y=some b→CY? E.P t=some true→(op=.eql∨op=.neq)→E.P.eqGuardType E.P.depth t=false→E5 E.P 9 t=some ks→
   (st.A5 g (.eqA (op==.neq) ks a b)).holds (·=s)→OpR E lam z st tm ds w o s:=by
  intro a b ks hx hy hagg hop hgd hks h
  simp only[St.A5,M.Aa]at h
  rw[M.Aw]at h
  obtain⟨s1,h1,h⟩:=h
  rw[M.Aw]at h
  obtain⟨s2,h2,h⟩:=h
  split at h
  ·rename_i l m
   rw[M.Aa,M.Ca]at h
   obtain⟨b',hb',h⟩:=h
   rw[M.Ad]at h
   subst h
   obtain⟨⟨cs,e1,r1⟩,_⟩:=CW R F hg hx h1 ds
   obtain⟨⟨cs',e2,r2⟩,_⟩:=CW R F hg hy h2 ds
   have hr:=fun u=>Sz (C:=ctx E lam z st.hp.next) (w:=w) (u:=u) 9 (D:=9999) hks (by omega) r1 r2 hb'
   have hv1:valOf E.P t cs.toList=.agg cs:=by simp[valOf,hagg,EG]
   have hv2:valOf E.P t cs'.toList=.agg cs':=by simp[valOf,hagg,EG]
   have hr':∀w,(Op.equalIn 10000 t (.agg cs) (.agg cs')).run E.P w=.ok b' w:=fun w=>by rw[←hv1,←hv2];exact hr w
   rcases hop with rfl|rfl
   ·refine OpR.quiet (v:=.bool b') (fun w=>?_) (ROk.lit rfl)
    simp only[execOp,ho,e1,e2,Sem.run_bind,run_eqGuard_agg w _ t _ _ cs cs' hgd,Result.andThen_ok,run_eql_struct,hr']
    rfl
   ·refine OpR.quiet (v:=.bool !b') (fun w=>?_) (ROk.lit rfl)
    simp only[execOp,ho,e1,e2,Sem.run_bind,run_eqGuard_agg w _ t _ _ cs cs' hgd,Result.andThen_ok,run_neq_struct,hr']
    rfl
  ·exact h.elim
 unfold Mr at ha
 split at ha
 ·rename_i a b k hx hy hu
  cases ha
  exact plain a b hx hy h
 ·rename_i a b hx hy hu
  cases ha
  exact plain a b hx hy h
 ·rename_i a b hx hy hu
  split at ha
  case isFalse=>cases ha
  rename_i hop
  cases ha
  simp only[St.A5,M.Aa]at h
  obtain⟨c,h1,h⟩:=E8 h
  obtain⟨d,h2,h⟩:=E8 h
  rw[M.Ad]at h
  subst h
  have e1:=Bz (ds:=ds) R F hg hx h1
  have e2:=Bz (ds:=ds) R F hg hy h2
  rcases hop with rfl|rfl
  ·refine OpR.quiet (v:=.bool (c==d)) (fun w=>?_) (ROk.lit rfl)
   simp[execOp,ho,e1,e2,eqGuard,run_eql_bool w t c d hu]
  ·refine OpR.quiet (v:=.bool !(c==d)) (fun w=>?_) (ROk.lit rfl)
   simp[execOp,ho,e1,e2,eqGuard,run_neq_bool w t c d hu]
 ·rename_i a b fs hx hy hu
  split at ha
  ·rename_i hc
   simp only[Option.map_eq_some_iff]at ha
   obtain⟨ks,hks,rfl⟩:=ha
   exact aggs a b ks hx hy (by simp[CY?,hu]) hc.1 hc.2 hks h
  ·cases ha
 ·rename_i a b n e hx hy hu
  split at ha
  ·rename_i hc
   simp only[Option.map_eq_some_iff]at ha
   obtain⟨ks,hks,rfl⟩:=ha
   exact aggs a b ks hx hy (by simp[CY?,hu]) hc.1 hc.2 hks h
  ·cases ha
 ·cases ha
end
end Go.VS
namespace Go.VS
section
variable{E:Env}{lam:Nat→Nat}{z:Nat→Prop}{fp:Ky→List Nat}{hd:Hands}{st:St}{tm:Array Value}{w:World}{ds:List Deferred}
theorem Ax.vers(R:Ax E lam z fp hd st tm w)(vs:Nat→Nat)(hv:Nat):Ax E lam z fp hd ⟨st.sl,st.hp,vs,hv⟩ tm w:=
 ⟨fun κ=>by have:=R.keys κ;cases κ<;>exact this,R.fps,R.z,R.frame,R.os,R.tape,R.output,R.size,R.tsz,R.base,R.i0⟩
theorem A1(st:St):∀(rs:List Root),(st.bumps rs).sl=st.sl∧(st.bumps rs).hp=st.hp
 |[]=>⟨rfl,rfl⟩
 |r::rs=>by
  have:=A1 (st.bump r) rs
  cases r<;>exact this
theorem Ax.bumps(R:Ax E lam z fp hd st tm w)(rs:List Root):Ax E lam z fp hd (st.bumps rs) tm w:=by
 have:=R.vers (st.bumps rs).vs (st.bumps rs).hv
 have e:st.bumps rs=⟨st.sl,st.hp,(st.bumps rs).vs,(st.bumps rs).hv⟩:=by
  have h:=A1 st rs
  rw[←h.1,←h.2]
 rw[e];exact this
theorem IZ(st:St)(r r':Root):st.ver r'≤(st.bump r).ver r':=by
 cases r<;>cases r'<;>simp only[St.bump,St.ver,upd]<;>(try split)<;>(try subst_vars)<;>omega
theorem LC(st:St)(r':Root):∀(rs:List Root),st.ver r'≤(st.bumps rs).ver r':=by
 intro rs
 induction rs generalizing st with
 |nil=>exact Nat.le_refl _
 |cons r rs ih=>exact Nat.le_trans (IZ st r r') (ih (st.bump r))
theorem LD(st:St)(r:Root):∀(rs:List Root),r∈rs→st.ver r<(st.bumps rs).ver r:=by
 intro rs
 induction rs generalizing st with
 |nil=>intro h;cases h
 |cons r0 rs ih=>
  intro h
  simp only[St.bumps]
  rw[List.mem_cons]at h
  rcases h with rfl|h
  ·refine Nat.lt_of_lt_of_le ?_ (LC (st.bump r) r rs)
   cases r<;>simp[St.bump,St.ver,upd]
  ·exact Nat.lt_of_le_of_lt (IZ st r0 r) (ih (st.bump r0) h)
structure Sh(tm:Array Value)(w:World)(lam:Nat→Nat)(st st':St)(rs:List Root):Prop where
 root:∀r,r∉rs→st'.root r=st.root r
 refs:∀t s',st'.sl t=.val true s'→∃s,st.sl t=.val true s∧vcells s' (tm.getD t undef)=vcells s (tm.getD t undef)∧∀(j:Nat) (a:AV),s'.cells[j]?=some a→s.cells[j]?=some a∨(∀p v k lo n,a≠.ref p v k lo n)∧∀p v k i c,a≠.adr p v k i c
 vs:st'.vs=st.vs
 hv:st'.hv=st.hv
 next:st'.hp.next=st.hp.next
 conc:∀q,VS.conc st' tm w lam q=VS.conc st tm w lam q
theorem Sh.refl(st:St):Sh tm w lam st st []:=⟨fun _ _=>rfl,fun _ s' h=>⟨s',h,rfl,fun _ _ h=>.inl h⟩,rfl,rfl,rfl,fun _=>rfl⟩
theorem Sh.trans{a b c:St}{rs rs':List Root}(h:Sh tm w lam a b rs)(k:Sh tm w lam b c rs'):Sh tm w lam a c (rs++rs'):=by
 refine⟨fun r hr=>?_,fun t s' hs=>?_,k.vs.trans h.vs,k.hv.trans h.hv,k.next.trans h.next,fun q=>(k.conc q).trans (h.conc q)⟩
 ·rw[List.mem_append,not_or]at hr
  exact(k.root r hr.2).trans (h.root r hr.1)
 ·obtain⟨s1,h1,e1,h2⟩:=k.refs t s' hs
  obtain⟨s2,h3,e2,h4⟩:=h.refs t s1 h1
  refine⟨s2,h3,e1.trans e2,fun j a hj=>?_⟩
  rcases h2 j a hj with h5|h5
  ·exact h4 j a h5
  ·exact .inr h5
theorem FX(r:Root)(a:AV):(st.Ar r a).vs=st.vs∧(st.Ar r a).hv=st.hv:=by
 cases r with
 |slot t j=>exact⟨rfl,rfl⟩
 |obj o c=>simp only[St.Ar];split<;>exact⟨rfl,rfl⟩
theorem RVs.TZ{C:Ctx}{l:List AV}{m:List Value}{f:List Nat}(h:RVs C w l m f)(hl:l=[]):f=[]:=by
 subst hl;generalize hm:m=m' at h;cases h;rfl
theorem IY(s:SV)(j:Nat)(b:AV)(v:Value):vcells (s.setCell j b) v=vcells s v:=by
 cases s with
 |one a=>cases j<;>rfl
 |agg l=>exact GH _ _ _
theorem Sh.put{p:Place}{k:Nat}{xs:List (List AV)}(h:st.at p=some (.sl .own k xs)):Sh tm w lam st (st.putAt p .dead) [p.root]:=by
 simp only[St.at]at h
 cases ha:st.root p.root with
 |none=>simp[ha]at h
 |some a=>
  rw[ha]at h
  simp only[Option.bind_some]at h
  have he:st.putAt p .dead=st.Ar p.root (a.put p.path .dead):=by simp only[St.putAt,ha]
  have hown:(∀q v k lo n,a.put p.path .dead≠.ref q v k lo n)∧∀q v k i c,a.put p.path .dead≠.adr q v k i c:=by
   cases hp:p.path with
   |nil=>simp[AV.put]
   |cons s r=>
    rw[hp]at h
    cases a with
    |sl τ k xs=>
     cases τ with
     |own=>simp only[AV.put];split<;>simp
     |_=>simp[AV.at]at h
    |_=>simp[AV.at]at h
  refine⟨?_,?_,?_,?_,?_,?_⟩
  ·intro r hr
   rw[List.mem_singleton]at hr
   rw[he]
   cases hpr:p.root with
   |slot t j=>
    rw[hpr]at ha hr
    obtain⟨s,hs,hj⟩:=St.Dm ha
    cases r with
    |obj o c=>rfl
    |slot t' j'=>
     simp only[St.Ar,St.root,upd]
     by_cases ht:t'=t
     ·subst ht
      have hjj:j'≠j:=fun e=>hr (by rw[e])
      simp only[if_true,hs,TV.setCell,TV.cell]
      rw[SV.Ed s j a _ hj,List.getElem?_set_ne (fun e=>hjj e.symm)]
     ·rw[if_neg ht]
   |obj o c=>
    rw[hpr]at ha hr
    obtain⟨l,hg,hc⟩:=St.Di ha
    cases r with
    |slot t j=>simp only[St.Ar,hg,St.root]
    |obj o' c'=>
     simp only[St.Ar,hg,St.root,Heap.set,upd]
     by_cases ho:o'=o
     ·subst ho
      have hcc:c'≠c:=fun e=>hr (by rw[e])
      simp only[if_true,hg,Option.bind_some]
      rw[List.getElem?_set_ne (fun e=>hcc e.symm)]
     ·rw[if_neg ho]
  ·intro t s' hs'
   rw[he]at hs'
   cases hpr:p.root with
   |obj o c=>
    rw[hpr]at hs'
    have:(st.Ar (.obj o c) (a.put p.path .dead)).sl=st.sl:=by simp only[St.Ar];split<;>rfl
    rw[this]at hs'
    exact⟨s',hs',rfl,fun _ _ h=>.inl h⟩
   |slot t0 j=>
    rw[hpr]at hs' ha
    obtain⟨s,hs,hj⟩:=St.Dm ha
    simp only[St.Ar,upd]at hs'
    by_cases ht:t=t0
    ·subst ht
     simp only[if_true,hs,TV.setCell,TV.val.injEq,true_and]at hs'
     subst hs'
     refine⟨s,hs,IY _ _ _ _,fun i b hb=>?_⟩
     rw[SV.Ed s j a _ hj]at hb
     by_cases hij:i=j
     ·subst hij
      refine .inr ?_
      rw[List.getElem?_set]at hb
      simp only[if_true]at hb
      split at hb
      ·simp only[Option.some.injEq]at hb;subst hb;exact hown
      ·cases hb
     ·rw[List.getElem?_set_ne (fun e=>hij e.symm)]at hb
      exact .inl hb
    ·rw[if_neg ht]at hs'
     exact⟨s',hs',rfl,fun _ _ h=>.inl h⟩
  ·rw[he];exact(FX _ _).1
  ·rw[he];exact(FX _ _).2
  ·rw[he];exact EI _ _
  ·intro q;rw[he];unfold VS.conc;rw[Dh]
theorem OR(rs:List Root)(r:Root):AX (st.bumps rs) tm w lam r=AX st tm w lam r:=by
 cases r with
 |obj o c=>rfl
 |slot t j=>simp only[AX,(A1 st rs).1]
theorem Nl(rs:List Root)(q:Place):conc (st.bumps rs) tm w lam q=conc st tm w lam q:=by simp only[conc,OR]
theorem QM(rs:List Root)(q:Place):(st.bumps rs).at q=st.at q:=by
 simp only[St.at]
 congr 1
 cases q.root with
 |slot t j=>simp only[St.root,(A1 st rs).1]
 |obj o c=>simp only[St.root,(A1 st rs).2]
theorem Dn{st st':St}(h1:st'.vs=st.vs)(h2:st'.hv=st.hv)(r:Root):st'.ver r=st.ver r:=by cases r<;>simp[St.ver,h1,h2]
theorem AR.shift{st':St}{rs:List Root}(S:Sh tm w lam st st' rs){a:AV}{u:Value}(h:AR st tm w lam a u):AR (st'.bumps rs) tm w lam a u:=by
 have live:∀(p:Place) (ver:Nat),ver≤st.ver p.root→ver≤(st'.bumps rs).ver p.root∧(ver=(st'.bumps rs).ver p.root→ver=st.ver p.root∧(st'.bumps rs).at p=st.at p∧conc (st'.bumps rs) tm w lam p=conc st tm w lam p):=by
  intro p ver hv
  have e:=Dn S.vs S.hv p.root
  have hle:=LC st' p.root rs
  refine⟨by omega,fun he=>?_⟩
  have hn:p.root∉rs:=fun hm=>by have:=LD st' p.root rs hm;omega
  refine⟨by omega,?_,by rw[Nl];exact S.conc p⟩
  rw[QM]
  simp only[St.at,S.root p.root hn]
 cases a with
 |ref p ver k lo n=>
  obtain⟨h1,h2⟩:=live p ver h.1
  refine⟨h1,fun hv=>?_⟩
  obtain⟨h3,h4,h5⟩:=h2 hv
  obtain⟨xs,v0,k1,k2,k3⟩:=h.2 h3
  exact⟨xs,v0,h4.trans k1,h5.trans k2,k3⟩
 |adr p ver k i c=>
  obtain⟨h1,h2⟩:=live p ver h.1
  refine⟨h1,fun hv=>?_⟩
  obtain⟨h3,h4,h5⟩:=h2 hv
  obtain⟨xs,b,off,len,cap,k1,k2,k3⟩:=h.2 h3
  exact⟨xs,b,off,len,cap,h4.trans k1,h5.trans k2,k3⟩
 |_=>exact trivial
theorem Refs.shift{st':St}{rs:List Root}(S:Sh tm w lam st st' rs)(F:Refs st tm w lam):Refs (st'.bumps rs) tm w lam:=by
 intro t s' hs j a u hj hu
 rw[(A1 st' rs).1]at hs
 obtain⟨s,h1,h2,h3⟩:=S.refs t s' hs
 rw[h2]at hu
 rcases h3 j a hj with h4|h4
 ·exact(F t s h1 j a u h4 hu).shift S
 ·exact AR.NZ h4.1 h4.2
theorem HM{C:Ctx}{k:Nat}{xs:List (List AV)}{v0 u:Value}{f:List Nat}{lo n:Nat}(h:RV C w (.sl .own k xs) v0 f)(hw:Win k v0 lo n u)(hl:lo+n≤xs.length):
  ∃f',RV C w (.sl .own k (window lo n xs)) u f'∧(f.Nodup→f'.Nodup)∧∀b,b∈f'→b∈f:=by
 rw[HA]
 rcases hw with⟨rfl,rfl,rfl,rfl⟩|⟨b,off,len,cap,off',cap',rfl,rfl,h1,h2,h3,h4⟩
 ·exact⟨[],by simpa using RV.slNil .own k,fun _=>List.nodup_nil,(fun _ h=>nomatch h)⟩
 ·cases h with
  |shr _ _ _ _ _ _ _ _ _ ht=>exact absurd rfl ht
  |shrE _ _ _ _ ht=>exact absurd rfl ht
  |own _ _ _ _ _ cs e f hb hs hc hm hk hr=>
   obtain⟨f1,f2,rfl,hd1⟩:=hr.drop (lo*k)
   obtain⟨f3,f4,rfl,hd2⟩:=hd1.take (n*k)
   have hlen:((xs.drop lo).take n).length=n:=by simp;omega
   have hk':∀y∈(xs.drop lo).take n,y.length=k:=fun y hy=>hk y (List.mem_of_mem_drop (List.mem_of_mem_take hy))
   rw[LF cs off xs.length k lo n hl,←ED k xs hk]at hd2
   refine⟨b::f3,?_,?_,?_⟩
   ·by_cases hc0:cap'=0
    ·have hn0:n=0:=by omega
     subst hn0
     have h5:f3=[]:=by
      exact RVs.TZ hd2 (by simp)
     rw[h5]
     have:=RV.own (C:=C) (w:=w) k [] b off' cap' cs e [] hb (by omega) (by simp) (by omega) (by simp) (by simpa using RVs.nil)
     simpa using this
    ·rw[h4 hc0]
     have:=RV.own (C:=C) (w:=w) k ((xs.drop lo).take n) b (off+lo*k) cap' cs e f3 hb (by rw[←h4 hc0];omega) (by rw[hlen];exact h2) (by omega) hk' (by rw[hlen];exact hd2)
     rw[hlen]at this
     exact this
   ·intro hn
    rw[List.nodup_cons]at hn⊢
    refine⟨fun hm=>hn.1 (by simp[hm]),?_⟩
    have:=(List.nodup_append.1 hn.2).2.1
    exact(List.nodup_append.1 this).1
   ·intro x hx
    simp only[List.mem_cons,List.mem_append]at hx⊢
    rcases hx with hx|hx<;>simp[hx]
theorem Iz{hd':Hands}{κ:Ky}{C:Ctx}{u:World}{f:List Nat}(h:∀i,κ=.h i→hd' i=hd i)(hK:AB C hd st tm u κ f):AB C hd' st tm u κ f:=by
 cases κ with
 |s t=>exact hK
 |o o=>exact hK
 |h j=>simpa only[AB,h j rfl]using hK
theorem Ax.join(R:Ax E lam z fp hd st tm w)(i j:Nat)(hij:j≠i):∃fp',Ax E lam z fp' (upd (upd hd j ([],[])) i ((hd i).1++(hd j).1,(hd i).2++(hd j).2)) st tm w∧∀k,k≠i→k≠j→fp' (.h k)=fp (.h k):=by
 have h1:=R.keys (.h i)
 have h2:=R.keys (.h j)
 simp only[AB]at h1 h2
 have hkk:(Ky.h i)≠Ky.h j:=by simpa using fun e=>hij e.symm
 have hne:∀x,x∈fp (.h i)→x∉fp (.h j):=fun x hx=>R.fps.dis (.h i) (.h j) x hkk hx
 refine⟨upk (upk fp (.h j) []) (.h i) (fp (.h i)++fp (.h j)),?_,fun k hk hk'=>by rw[AO _ _ (by simpa using hk),AO _ _ (by simpa using hk')]⟩
 refine R.pass (hd':=upd (upd hd j ([],[])) i ((hd i).1++(hd j).1,(hd i).2++(hd j).2)) (st':=st) (tm':=tm) (.h j) (.h i) (by simpa using fun e=>hij e.symm) (Moves.refl _ w) rfl rfl ?_ ?_ ?_ List.nodup_nil ?_ (fun _ h=>nomatch h) (fun _ h=>nomatch h) ?_
 ·intro κ h3 h4 C x f hK
  refine Iz (fun k hk=>?_) hK
  subst hk
  have a1:k≠i:=fun e=>h4 (by rw[e])
  have a2:k≠j:=fun e=>h3 (by rw[e])
  simp[upd,a1,a2]
 ·simp only[AB,upd,if_neg hij,if_true];exact .nil
 ·simp only[AB,upd,if_true];exact h1.append h2
 ·rw[List.nodup_append];exact⟨R.fps.nod _,R.fps.nod _,fun x hx y hy e=>hne x hx (e▸hy)⟩
 ·intro x hx;rw[List.mem_append]at hx;rcases hx with hx|hx
  ·exact .inr (.inl hx)
  ·exact .inl hx
theorem FY(st:St)(mem:Bool):∀(l:List AV) (m:List Value) (sti:St) (rs0:List Root) (la:List AV) (lv:List Value) (fp:Ky→List Nat) (l':List AV) (st':St) (rs:List Root),
  Ax E lam z fp (upd Am 0 (la,lv)) sti tm w→Sh tm w lam st sti rs0→RVs (ctx E lam z st.hp.next) w l m []→(∀(j:Nat) (a:AV) (u:Value),l[j]?=some a→m[j]?=some u→AR st tm w lam a u)→
  (sti.B5 st.ver mem l).holds (·=(l',st',rs))→
  ∃fp',Ax E lam z fp' (upd Am 0 (la++l',lv++m)) st' tm w∧Sh tm w lam st st' (rs0++rs)∧l'.length=l.length∧
   (∀(j:Nat) (a:AV) (u:Value),l'[j]?=some a→m[j]?=some u→AR st tm w lam a u)∧(mem=true→∀a∈l',(∀p v k lo n,a≠.ref p v k lo n)∧∀p v k i c,a≠.adr p v k i c)
 |[],m,sti,rs0,la,lv,fp,l',st',rs,R,S,hr,hc,h=>by
  simp only[St.B5]at h
  rw[M.Ad]at h
  cases h
  generalize hf:([]:List Nat)=f at hr
  cases hr
  exact⟨fp,by simpa using R,by simpa using S,rfl,hc,fun _ a ha=>by cases ha⟩
 |a::l,m,sti,rs0,la,lv,fp,l',st',rs,R,S,hr,hc,h=>by
  generalize hf:([]:List Nat)=f at hr
  cases hr with
  |cons _ u f _ m g ha ht=>
   have hfg:=List.append_eq_nil_iff.1 hf.symm
   rw[hfg.1]at ha
   rw[hfg.2]at ht
   simp only[St.B5,M.Aa]at h
   rw[M.Aw]at h
   obtain⟨⟨b,st1,rs1⟩,h1,h⟩:=h
   dsimp only at h
   rw[M.Aw]at h
   obtain⟨⟨m',st2,rs2⟩,h2,h⟩:=h
   rw[M.Ad]at h
   cases h
   have hca:=hc 0 a u rfl rfl
   have step:∃fp1,Ax E lam z fp1 (upd Am 0 (la++[b],lv++[u])) st1 tm w∧Sh tm w lam st st1 (rs0++rs1)∧AR st tm w lam b u∧(mem=true→(∀p v k lo n,b≠.ref p v k lo n)∧∀p v k i c,b≠.adr p v k i c):=by
    have same:∀(hn:a.Br=false),b=a→st1=sti→rs1=[]→∃fp1,Ax E lam z fp1 (upd Am 0 (la++[b],lv++[u])) st1 tm w∧Sh tm w lam st st1 (rs0++rs1):=by
     rintro hn rfl rfl rfl
     have h0:=R.keys (.h 0)
     simp only[AB,upd,if_true]at h0
     have ha':RV (ctx E lam z st1.hp.next) w b u []:=by rw[S.next];exact ha
     have:=R.turn 0 (Moves.refl _ w) (h0.append (RVs.one ha')) (by simpa using R.fps.nod (.h 0)) (fun x hx=>.inl (by simpa using hx))
     have e:upd (upd Am 0 (la,lv)) 0 (la++[b],lv++[u])=upd Am 0 (la++[b],lv++[u]):=by funext j;simp only[upd];split<;>rfl
     rw[e]at this
     exact⟨_,this,by simpa using S⟩
    unfold St.DR at h1
    split at h1
    ·rename_i p v k lo n
     split at h1
     ·rename_i k' xs hat
      simp only[M.Aa,M.Aj]at h1
      obtain⟨hv,hkk,hln,h1⟩:=h1
      rw[M.Ad]at h1
      cases h1
      subst hkk
      obtain⟨xs',v0,k1,k2,k3⟩:=hca.2 hv
      obtain⟨u0,fp1,c1,R1,hh1⟩:=R.take 1 p hat
      have hu0:u0=v0:=by rw[S.conc p,k2]at c1;exact(Option.some.inj c1).symm
      subst hu0
      have hk1:=R1.keys (.h 1)
      simp only[AB,upd,if_true]at hk1
      obtain⟨u1,hu1,hrv⟩:=RVs.Bk hk1
      cases hu1
      obtain⟨f',w1,w2,w3⟩:=HM hrv k3 hln
      have R2:=R1.turn 1 (Moves.refl _ w) (RVs.one w1) (w2 (R1.fps.nod _)) (fun x hx=>.inl (w3 x hx))
      obtain⟨fp3,R3,_⟩:=R2.join 0 1 (by decide)
      have e:upd (upd (upd (upd (upd Am 0 (la,lv)) 1 ([AV.sl .own k' xs],[u0])) 1 ([AV.sl .own k' (window lo n xs)],[u])) 1 ([],[])) 0
        ((upd (upd (upd Am 0 (la,lv)) 1 ([AV.sl .own k' xs],[u0])) 1 ([AV.sl .own k' (window lo n xs)],[u]) 0).1++(upd (upd (upd Am 0 (la,lv)) 1 ([AV.sl .own k' xs],[u0])) 1 ([AV.sl .own k' (window lo n xs)],[u]) 1).1,
         (upd (upd (upd Am 0 (la,lv)) 1 ([AV.sl .own k' xs],[u0])) 1 ([AV.sl .own k' (window lo n xs)],[u]) 0).2++(upd (upd (upd Am 0 (la,lv)) 1 ([AV.sl .own k' xs],[u0])) 1 ([AV.sl .own k' (window lo n xs)],[u]) 1).2)=
        upd Am 0 (la++[AV.sl .own k' (window lo n xs)],lv++[u]):=by
       funext j
       by_cases hj0:j=0
       ·subst hj0;simp[upd]
       ·by_cases hj1:j=1
        ·subst hj1;simp[upd,Am]
        ·simp[upd,hj0,hj1]
      rw[e]at R3
      exact⟨fp3,R3,S.trans (Sh.put hat),trivial,fun _=>⟨by simp,by simp⟩⟩
     ·exact h1.elim
    ·rename_i p v k i c
     split at h1
     ·exact h1.elim
     ·rename_i hm
      rw[M.Ad]at h1
      cases h1
      obtain⟨fp1,hR,hS⟩:=same rfl rfl rfl rfl
      exact⟨fp1,hR,hS,hca,fun hm'=>absurd hm' hm⟩
    ·rename_i k xs i c
     split at h1
     ·exact h1.elim
     ·rw[M.Ad]at h1
      cases h1
      obtain⟨fp1,hR,hS⟩:=same rfl rfl rfl rfl
      exact⟨fp1,hR,hS,hca,fun _=>⟨by simp,by simp⟩⟩
    ·exact h1.elim
    ·exact h1.elim
    ·rename_i h3 h4 h5 h6 h7
     rw[M.Ad]at h1
     cases h1
     have hno:a.Br=false:=by
      cases a with
      |sl τ k xs=>cases τ<;>first|rfl|exact(h7 k xs rfl).elim
      |_=>rfl
     obtain⟨fp1,hR,hS⟩:=same hno rfl rfl rfl
     exact⟨fp1,hR,hS,hca,fun _=>⟨fun p v k lo n=>h3 p v k lo n,fun p v k i c=>h4 p v k i c⟩⟩
   obtain⟨fp1,R1,S1,hcb,hmb⟩:=step
   obtain⟨fp2,R2,S2,hl2,hc2,hm2⟩:=FY st mem l m st1 (rs0++rs1) (la++[b]) (lv++[u]) fp1 m' st2 rs2 R1 S1 ht (fun j a' u' hj hu=>hc (j+1) a' u' hj hu) h2
   refine⟨fp2,by simpa using R2,by simpa using S2,by simp[hl2],?_,?_⟩
   ·intro j a' u' hj hu
    cases j with
    |zero=>simp only[List.getElem?_cons_zero,Option.some.injEq]at hj hu;subst hj;subst hu;exact hcb
    |succ j=>exact hc2 j a' u' hj hu
   ·intro hm a' ha'
    rw[List.mem_cons]at ha'
    rcases ha' with rfl|ha'
    ·exact hmb hm
    ·exact hm2 hm a' ha'
end
end Go.VS
namespace Go.VS
section
variable{E:Env}{lam:Nat→Nat}{z:Nat→Prop}{fp:Ky→List Nat}{hd:Hands}{st:St}{tm:Array Value}{w:World}{ds:List Deferred}
def Fits(s:SV)(v:Value):Prop:=∀C w f,RVs C w s.cells (vcells s v) f→RSV C w s v f
theorem RSV.fits{C:Ctx}{w:World}{s:SV}{v:Value}{f:List Nat}(h:RSV C w s v f){l:List AV}(hl:l.length=s.cells.length):Fits (s.with l) v∧(s.with l).cells=l∧vcells (s.with l) v=vcells s v:=by
 cases s with
 |one a=>
  match l,hl with
  |[b],_=>
   refine⟨fun C w f h=>?_,rfl,rfl⟩
   obtain⟨u,hu,h'⟩:=RVs.Bk (show RVs C w [b] [v] f from h)
   cases hu
   exact h'
 |agg m=>
  obtain⟨cs,rfl,_⟩:=h
  exact⟨fun C w f h=>⟨cs,rfl,h⟩,rfl,rfl⟩
structure Took(E:Env)(lam:Nat→Nat)(z:Nat→Prop)(mem:Bool)(st:St)(tm:Array Value)(w:World)(s:SV)(v:Value)(st1:St)(fp:Ky→List Nat):Prop where
 rel:Ax E lam z fp (upd Am 0 (s.cells,vcells s v)) st1 tm w
 refs:Refs st1 tm w lam
 own:CS st1 tm w lam s v
 fits:Fits s v
 next:st1.hp.next=st.hp.next
 clean:mem=true→∀a∈s.cells,(∀p v k lo n,a≠.ref p v k lo n)∧∀p v k i c,a≠.adr p v k i c
 keep:∀a u,AR st tm w lam a u→AR st1 tm w lam a u
theorem CH:upd Am 0 (([],[]):List AV×List Value)=Am:=by funext j;simp only[upd,Am];split<;>rfl
theorem Qw(R:Ax E lam z fp Am st tm w)(F:Refs st tm w lam){mem:Bool}{o:Operand}{x:Opd}(ho:AA E.P o=some x){s:SV}{st1:St}(h:(st.take mem x).holds (·=(s,st1)))(ds:List Deferred):
  ∃fp',Took E lam z mem st tm w s (Act.eval ⟨tm,ds⟩ o) st1 fp':=by
 unfold St.take at h
 simp only[M.Aa]at h
 rw[M.Aw]at h
 obtain⟨s0,h0,h⟩:=h
 rw[M.Aw]at h
 obtain⟨⟨l,st',rs⟩,h1,h⟩:=h
 rw[M.Ad]at h
 cases h
 obtain⟨hu,hr⟩:=CW R F rfl ho h0 ds
 have R0:Ax E lam z fp (upd Am 0 ([],[])) st tm w:=by rw[CH];exact R
 obtain⟨fp',R1,S1,hl,hc,hm⟩:=FY st mem s0.cells (vcells s0 (Act.eval ⟨tm,ds⟩ o)) st [] [] [] fp l st' rs R0 (Sh.refl st) hu.cells hr h1
 obtain⟨hf1,hf2,hf3⟩:=hu.fits hl
 simp only[List.nil_append]at R1 S1
 refine⟨fp',⟨?_,F.shift S1,?_,hf1,?_,?_,fun a u h=>h.shift S1⟩⟩
 ·rw[hf2,hf3];exact R1.bumps rs
 ·intro j a u hj hu'
  rw[hf2]at hj
  rw[hf3]at hu'
  exact(hc j a u hj hu').shift S1
 ·rw[(A1 st' rs).2];exact S1.next
 ·intro hmem a ha;rw[hf2]at ha;exact hm hmem a ha
def Hu(tm:Array Value)(dst:Option Nat)(v:Value):Array Value:=
 match dst with
 |some d=>tm.setIfInBounds d v
 |none=>tm
theorem put_eq(tm:Array Value)(ds:List Deferred)(dst:Option Nat)(v:Value):(Act.put ⟨tm,ds⟩ dst v)=⟨Hu tm dst v,ds⟩:=by cases dst<;>rfl
def OpW(E:Env)(tm:Array Value)(ds:List Deferred)(w:World)(o:Oper)(st':St):Prop:=
 ∃r w',(execOp (Act.eval ⟨tm,ds⟩) o).run E.P w=.ok r w'∧((∃v,r=.value v∧Rel E st' (Hu tm o.dst v) w')∨(r=.skip∧Rel E st' (Hu tm o.dst undef) w'))
theorem Zt(R:Ax E lam z fp Am st tm w)(F:Refs st tm w lam){o:Oper}{x:Operand}{a:Opd}{d:Nat}(ho:o.op=.assign x)(ha:AA E.P x=some a)(hdst:o.dst=some d)(hd:d<E.nt){st':St}
  (h:(st.Fv o.dst (.asg a)).holds (·=st')):OpW E tm ds w o st':=by
 simp only[St.Fv,hdst,M.Aa]at h
 rw[M.Aw]at h
 obtain⟨⟨s,st1⟩,h1,h⟩:=h
 rw[M.Ad]at h
 subst h
 obtain⟨fp',T⟩:=Qw R F ha h1 ds
 refine⟨.value (Act.eval ⟨tm,ds⟩ x),w,by simp[execOp,ho],.inl ⟨_,rfl,?_⟩⟩
 rw[hdst]
 have hk:=T.rel.keys (.h 0)
 simp only[AB,upd,if_true]at hk
 have R2:=T.rel.Jj 0 d (.val true s) (Act.eval ⟨tm,ds⟩ x) hd ⟨fun _=>T.fits _ _ _ hk,fun h=>nomatch h⟩ (if(st1.sl d).BV then upd st1.vs d (st1.vs d+1)else st1.vs) st1.hv
 rw[H9]at R2
 exact⟨lam,z,_,R2,T.refs.set (by rw[R.tsz];exact hd) T.own⟩
theorem Ax.lits(R:Ax E lam z fp Am st tm w)(l:List Value)(h:l.all Value.oneCell'=true):∃fp',Ax E lam z fp' (upd Am 0 (l.map .lit,l)) st tm w:=
 ⟨_,R.turn 0 (Moves.refl _ w) (RVs.lits l h) List.nodup_nil (fun _ h=>nomatch h)⟩
theorem Ax.newObj(R:Ax E lam z fp (upd Am 0 (hd 0)) st tm w)(e:TypeId):
  ∃fp',Ax E (upd lam st.hp.next w.heap.size) z fp' Am ⟨st.sl,st.hp.alloc (hd 0).1,st.vs,st.hv⟩ tm (w.alloc (.cells (hd 0).2.toArray e)):=by
 have hk0:=R.keys (.h 0)
 simp only[AB,upd,if_true]at hk0
 have hC:(ctx E lam z st.hp.next).Le (ctx E (upd lam st.hp.next w.heap.size) z (st.hp.next+1)):=
  ⟨rfl,fun o ho=>by simp only[ctx,upd]at ho⊢;rw[if_neg (by omega)],by simp[ctx],fun _ h=>h,fun _ h=>h⟩
 have hb:∀b,b<w.heap.size→(w.alloc (.cells (hd 0).2.toArray e)).heap[b]?=w.heap[b]?:=fun b h=>heap_alloc_old w _ h
 have hz:∀b,(ctx E lam z st.hp.next).zb b→(w.alloc (.cells (hd 0).2.toArray e)).heap[b]?=w.heap[b]?:=fun b h=>hb b (R.Ty h)
 have hk:∀κ,∀b,b∈fp κ→(w.alloc (.cells (hd 0).2.toArray e)).heap[b]?=w.heap[b]?:=fun κ b h=>hb b (R.fps.ok κ b h).1
 have hfresh:∀κ,w.heap.size∉fp κ:=fun κ h=>by have:=(R.fps.ok κ _ h).1;omega
 refine⟨upk (upk fp (.h 0) []) (.o st.hp.next) (w.heap.size::fp (.h 0)),⟨?_,?_,fun b h=>⟨by have:=(R.z b h).1;simp;omega,(R.z b h).2⟩,fun b h hf=>(hb b (Nat.lt_of_lt_of_le h R.size)).trans (R.frame b h hf),R.os,R.tape,R.output,
  by have:=R.size;simp;omega,R.tsz,⟨Nat.le_succ_of_le R.base.1,fun o ho=>by
   have:=R.base.1
   simp only[upd]
   rw[if_neg (by omega)]
   exact R.base.2 o ho⟩,R.i0⟩⟩
 ·intro κ
  by_cases h1:κ=.o st.hp.next
  ·subst h1
   rw[A8]
   intro l hl
   simp only[Heap.alloc,upd,if_true,Option.some.injEq]at hl
   subst hl
   refine⟨Nat.lt_succ_self _,(hd 0).2.toArray,e,fp (.h 0),?_,by simpa[Heap.alloc]using RVs.frame hC hz hk0 (hk _),by simp[ctx,upd,Heap.alloc]⟩
   simp only[ctx,upd,if_true,Heap.alloc]
   exact heap_alloc_new w _
  ·rw[AO _ _ h1]
   by_cases h2:κ=.h 0
   ·subst h2
    rw[A8]
    simp only[AB,Am]
    exact .nil
   ·rw[AO _ _ h2]
    have:=(R.keys κ).frame hC hz (hk κ)
    cases κ with
    |s t=>exact this
    |h i=>
     have hi:i≠0:=fun e=>h2 (by rw[e])
     simpa only[AB,upd,if_neg hi,Heap.alloc]using this
    |o o'=>
     have ho:o'≠st.hp.next:=fun e=>h1 (by rw[e])
     intro l hl
     simp only[Heap.alloc,upd,if_neg ho]at hl
     exact this l hl
 ·refine R.fps.two R.size (fun b h=>(R.z b h).1) (by simp) (.h 0) (.o st.hp.next) _ (fun κ h1 h2=>by rw[AO _ _ h2,AO _ _ h1]) ?_ ?_ ?_ ?_ ?_
  ·rw[AO _ _ (by simp),A8];exact List.nodup_nil
  ·rw[A8,List.nodup_cons];exact⟨hfresh _,R.fps.nod _⟩
  ·intro _ b hb;rw[AO _ _ (by simp),A8]at hb;cases hb
  ·intro b hb;rw[AO _ _ (by simp),A8]at hb;cases hb
  ·intro b hb
   rw[A8,List.mem_cons]at hb
   rcases hb with rfl|hb
   ·exact .inr (.inr ⟨Nat.le_refl _,by simp⟩)
   ·exact .inl hb
theorem AR.newObj(R:Ax E lam z fp hd st tm w){l:List AV}{ob:Obj}{a:AV}{u:Value}(h:AR st tm w lam a u)(hw:∀o l,st.hp.get o=some l→o<st.hp.next):
  AR ⟨st.sl,st.hp.alloc l,st.vs,st.hv⟩ tm (w.alloc ob) (upd lam st.hp.next w.heap.size) a u:=by
 have hb:∀κ,∀b,b∈fp κ→(w.alloc ob).heap[b]?=w.heap[b]?:=fun κ b h=>heap_alloc_old w _ (R.fps.ok κ b h).1
 have same:∀(p:Place) (k:Nat) (xs:List (List AV)),st.at p=some (.sl .own k xs)→St.at ⟨st.sl,st.hp.alloc l,st.vs,st.hv⟩ p=st.at p∧
   conc ⟨st.sl,st.hp.alloc l,st.vs,st.hv⟩ tm (w.alloc ob) (upd lam st.hp.next w.heap.size) p=conc st tm w lam p:=by
  intro p k xs hat
  have h1:=E4 (w':=w.alloc ob) R hat (hb _)
  cases hr:p.root with
  |slot t j=>
   refine⟨by simp only[St.at,hr,St.root],?_⟩
   rw[←h1]
   simp only[conc,hr,AX]
  |obj o c=>
   have ho:o<st.hp.next:=by
    simp only[St.at,hr]at hat
    cases hro:st.root (.obj o c)with
    |none=>simp[hro]at hat
    |some a0=>obtain⟨l0,hg,_⟩:=St.Di hro;exact hw o l0 hg
   have hne:o≠st.hp.next:=by omega
   refine⟨by simp only[St.at,hr,St.root,Heap.alloc,upd,if_neg hne],?_⟩
   rw[←h1]
   simp only[conc,hr,AX,upd,if_neg hne]
 cases a with
 |ref p ver k lo n=>
  refine⟨h.1,fun hv=>?_⟩
  obtain⟨xs,v0,k1,k2,k3⟩:=h.2 hv
  obtain⟨e1,e2⟩:=same p k xs k1
  exact⟨xs,v0,e1.trans k1,e2.trans k2,k3⟩
 |adr p ver k i c=>
  refine⟨h.1,fun hv=>?_⟩
  obtain⟨xs,b,off,len,cap,k1,k2,k3⟩:=h.2 hv
  obtain⟨e1,e2⟩:=same p k xs k1
  exact⟨xs,b,off,len,cap,e1.trans k1,e2.trans k2,k3⟩
 |_=>exact trivial
theorem Ax.wf(R:Ax E lam z fp hd st tm w):∀o l,st.hp.get o=some l→o<st.hp.next:=fun o l h=>(R.keys (.o o) l h).1
theorem Rel.newVar(R:Ax E lam z fp (upd Am 0 (hd 0)) st tm w)(F:Refs st tm w lam)(e:TypeId){d:Nat}(hdn:d<E.nt):
  Rel E (St.set ⟨st.sl,st.hp.alloc (hd 0).1,st.vs,st.hv⟩ d (V (.ptr st.hp.next 0))) (tm.setIfInBounds d (.pointer (some ⟨w.heap.size,0,none⟩))) (w.alloc (.cells (hd 0).2.toArray e)):=by
 obtain⟨fp',R1⟩:=R.newObj (hd:=hd) e
 have F1:Refs ⟨st.sl,st.hp.alloc (hd 0).1,st.vs,st.hv⟩ tm (w.alloc (.cells (hd 0).2.toArray e)) (upd lam st.hp.next w.heap.size):=
  fun t s hs j a u hj hu=>(F t s hs j a u hj hu).newObj R R.wf
 refine Rel.result R1 F1 (ROk.one (a:=.ptr st.hp.next 0) (v:=.pointer (some ⟨w.heap.size,0,none⟩)) ?_ trivial) hdn
 have:=RV.ptr (C:=ctx E (upd lam st.hp.next w.heap.size) z (st.hp.next+1)) (w:=w.alloc (.cells (hd 0).2.toArray e)) st.hp.next 0 (Nat.lt_succ_self _)
 simpa[ctx,upd,Heap.alloc]using this
theorem XY(R:Ax E lam z fp Am st tm w)(F:Refs st tm w lam){o:Oper}{e:TypeId}{zs:List Value}{d:Nat}(ho:o.op=.alloc e)(hz:zeroOf? E.P e=some zs)(hdst:o.dst=some d)(hd:d<E.nt){st':St}
  (h:(st.Fv o.dst (.alloc zs)).holds (·=st')):OpW E tm ds w o st':=by
 simp only[St.Fv,hdst]at h
 rw[M.Ad]at h
 subst h
 obtain⟨it,zv,hit,hzv,hzl,hza⟩:=HB hz
 obtain⟨fp',R1⟩:=R.lits zs hza
 have:=Rel.newVar (hd:=upd Am 0 (zs.map .lit,zs)) (by simpa[upd]using R1) F e hd
 refine⟨.value (.pointer (some ⟨w.heap.size,0,none⟩)),w.alloc (.cells zv.cells e),?_,.inl ⟨_,rfl,?_⟩⟩
 ·simp[execOp,ho,Instr.alloc,zeroValue,typeInfo,hit,hzv,newVar,newRow]
 ·have e1:zs.toArray=zv.cells:=by rw[←hzl]
  rw[hdst]
  simpa[upd,e1,Hu]using this
theorem Zu(R:Ax E lam z fp Am st tm w)(F:Refs st tm w lam){o:Oper}{e:TypeId}{x:Operand}{a:Opd}{d:Nat}(ho:o.op=.box e x)(ha:AA E.P x=some a)(hdst:o.dst=some d)(hd:d<E.nt){st':St}
  (h:(st.Fv o.dst (.box a)).holds (·=st')):OpW E tm ds w o st':=by
 simp only[St.Fv,hdst,M.Aa]at h
 rw[M.Aw]at h
 obtain⟨⟨s,st1⟩,h1,h⟩:=h
 rw[M.Ad]at h
 subst h
 obtain⟨fp',T⟩:=Qw R F ha h1 ds
 have hk:=T.rel.keys (.h 0)
 simp only[AB,upd,if_true]at hk
 have hv:=GG (T.fits _ _ _ hk)
 have:=Rel.newVar (hd:=upd Am 0 (s.cells,vcells s (Act.eval ⟨tm,ds⟩ x))) (by simpa[upd]using T.rel) T.refs e hd
 refine⟨.value (.pointer (some ⟨w.heap.size,0,none⟩)),w.alloc (.cells (Act.eval ⟨tm,ds⟩ x).cells e),?_,.inl ⟨_,rfl,?_⟩⟩
 ·simp[execOp,ho,Instr.box,newVar,newRow]
 ·have e1:(vcells s (Act.eval ⟨tm,ds⟩ x)).toArray=(Act.eval ⟨tm,ds⟩ x).cells:=by rw[←hv]
  rw[hdst]
  simpa[upd,e1,Hu]using this
end
end Go.VS
