/- A range over a function whose rounds write nothing but, when they leave, a cell of the caller's; the iterator may write its own cells. -/
import Derived.Test.YtopngokkgogolaaGreatDoorFwD
import Derived.RangeFuncBox
import Derived.RangeFuncLeaves
import Derived.WalkKit
import Derived.OwnWalkIn
import Derived.TacticsInMore
import Derived.LoopNIn
import Derived.LoopIn
set_option linter.unusedVariables false
set_option linter.unusedSimpArgs false
namespace Go.VS
open Go.RowKit Go
theorem F6{m l:Nat}{w W:World}{o:Obj}(h:Below m w W)(hl:m≤l):Below m w (W.putObj l o):=
 ⟨h.os,h.tape,h.output,by rw[World.putObj_size];exact h.size,fun b hb=>(World.putObj_heap_other (by omega)).trans (h.block b hb)⟩
def Aoe{α:Type}(I Ix:List α→World→Prop)(xs:List α)(W:World):Exit→Act→World→Prop
 |.normal,_,W'=>W'=W∧I xs W
 |.ret,_,W'=>KeepsOthers W W'∧Ix xs W'
 |_,_,_=>False
theorem Ak8{α:Type}{F:Fence}{n:Nat}{P:Program}{g:Operand}{ps:Array Tmp}{assign body:Code}{Q:Exit→Act→World→Prop}{a:Act}{w:World}(hro:F.round=none)(h1:1≤n)
  {gf:Nat} {lb:Array Value} (hg:a.eval g=.func (.func gf) #[] lb) (hFg:F.fn gf) (eg:∀args w,(callFunc gf args).run P w=.ok (.enter gf args) w) (enc:α→Value) (hps:ps.size=1)
  (I Ix:List α→World→Prop) (hIa:∀s W o,I s W→I s (W.alloc o)) (hIp:∀s W l o',I s W→w.heap.size≤l→I s (W.putObj l o')) (hXp:∀s W l o',Ix s W→w.heap.size≤l→Ix s (W.putObj l o'))
  (h0:I [] w) (a₁:α→Act)
  (hassign:∀(l:Nat) (x:α) (W:World) (K:Act→World→Prop),K (a₁ x) W→
   assign.wpIn (F.inRound l) (n -1 -1) P (Exit.then K (fun _ _ _=>False)) {tmps:=(ps.zip #[enc x]).foldl (fun t (p,v)=>t.setIfInBounds p v) a.tmps,defers:=[]} W)
  (hbody:∀(l:Nat) (pre:List α) (x:α) (W:World),I pre W→body.wpIn (F.inRound l) (n -1 -1) P (Aoe I Ix (pre++[x]) W) (a₁ x) W)
  (S Sp:List α→Prop)
  (hit:∀(l:Nat) (J Jx:List α→World→Prop) (W:World),w.heap.size≤l→(∀pre W,J pre W→I pre W)→
   (∀pre W b v,J pre W→b<w.heap.size→I pre (W.setCell ⟨b,0,none⟩ v)→J pre (W.setCell ⟨b,0,none⟩ v))→
   (∀pre x W1,J pre W1→YieldAt F (n -1 -1) P l #[enc x] W1 fun e W'=>(e=.returned (.bool true)∧J (pre++[x]) W'∧Below w.heap.size W1 W')∨(e=.returned (.bool false)∧Jx (pre++[x]) W'))→
   J [] W→Below w.heap.size w W→CallsIn F (n -1) P gf (#[.func (.yield l) #[] #[]]++lb) W fun e W'=>(∃v,e=.returned v)∧((∃xs,S xs∧J xs W')∨(∃pre,Sp pre∧Jx pre W')))
  (hdone:∀(D:Nat) (xs:List α) (W:World),w.heap.size≤D→S xs→I xs W→W.heap[D]?=some (.deferred (some []))→Q .normal {a with defers:={target:=.collected D,args:=#[]}::a.defers} W)
  (hstop:∀(D:Nat) (pre:List α) (W:World),w.heap.size≤D→Sp pre→Ix pre W→W.heap[D]?=some (.deferred (some []))→Code.ret.wpIn F n P Q {a with defers:={target:=.collected D,args:=#[]}::a.defers} W):
  (Code.rangeFunc g ps assign body).wpIn F n P Q a w:=by
 refine wpIn_rangeFunc ?_;intro fn hfn;rw[hro]
 obtain⟨D,hD⟩:∃D,w.heap.size=D:=⟨_,rfl⟩
 obtain⟨rc,hrc⟩:∃rc:LoopState→Option Code→Loop,rc=fun st pe=>{state:=st,pending:=pe,fn,tmps:=a.tmps,params:=ps,assign,body,defers:=D}:=⟨_,rfl⟩
 obtain⟨W1,hW1⟩:∃W1,(w.alloc (.deferred (some []))).alloc (.loop (rc .ready none))=W1:=⟨_,rfl⟩
 have hnew:W1.heap[D+1]?=some (.loop (rc .ready none)):=by
  have:=World.alloc_heap_new (w.alloc (.deferred (some []))) (.loop (rc .ready none));rw[World.size_alloc,hW1,hD]at this;exact this
 have hdef:W1.heap[D]?=some (.deferred (some [])):=by
  rw[←hW1,Below.heap_alloc _ _ _ (by rw[World.size_alloc];omega),←hD]
  exact World.alloc_heap_new w _
 have hbw:Below w.heap.size w W1:=by
  rw[←hW1];exact((Below.refl _ w).alloc (Nat.le_refl _) _).alloc (by simp) _
 have hi1:I [] W1:=by rw[←hW1];exact hIa _ _ _ (hIa _ _ _ h0)
 have hok:a.eval g=.func (.func gf) #[] lb:=hg;refine⟨D+1,[{target:=.collected D,args:=#[]}],W1,{target:=.fn (.func gf) lb,args:=#[.func (.yield (D+1)) #[] #[]]},W1,gf,#[.func (.yield (D+1)) #[] #[]]++lb,W1,?_,?_,?_,?_,fun _=>h1,?_⟩
 ·have:=run_enterLoop_outer (P:=P) (w:=w) fn a.tmps ps assign body;rw[this,←hW1,hrc,hD]
 ·simp only[resolve,hok];simp[go_sem]
 ·intro f' hf';simp[Target.leads]at hf';subst hf';exact hFg
 ·simp[invoke,go_sem,eg]
 refine(hit (D+1) (fun pre W=>I pre W∧W.heap[D+1]?=some (.loop (rc .ready none))∧W.heap[D]?=some (.deferred (some [])))
  (fun pre W=>Ix pre W∧W.heap[D+1]?=some (.loop (rc .done (some .ret)))∧W.heap[D]?=some (.deferred (some []))) W1 (by omega) (fun _ _ h=>h.1) ?_ ?_ ⟨hi1,hnew,hdef⟩ hbw).mono ?_
 ·rintro pre W b v ⟨_,hl,hd⟩ hb hI;exact⟨hI,(Below.heap_setCell _ _ _ _ (show D+1≠b by omega)).trans hl,(Below.heap_setCell _ _ _ _ (show D≠b by omega)).trans hd⟩
 ·rintro pre x W ⟨hi,hl,hd⟩;have hlt:D+1<W.heap.size:=(Array.getElem?_eq_some_iff.1 hl).1;have hy:=run_yield (P:=P) (args:=#[enc x]) hl (by rw[hrc];exact hps.symm)
  rw[hrc]at hy;refine⟨fn,_,assign,body,hy,roundIn_of_wpIn hfn (hassign _ x W _ ⟨_,run_beginRound hl (by rw[hrc]),?_⟩)⟩
  obtain⟨V,hV⟩:∃V,W.putObj (D+1) (.loop {rc .ready none with state:=.busy})=V:=⟨_,rfl⟩
  have hVl:V.heap[D+1]?=some (.loop {rc .ready none with state:=.busy}):=by rw[←hV];exact World.putObj_heap_same hlt
  have hVd:V.heap[D]?=some (.deferred (some [])):=by rw[←hV];exact(World.putObj_heap_other (by omega)).trans hd
  have hVi:I pre V:=by rw[←hV];exact hIp _ _ _ _ hi (by omega)
  have hVb:Below w.heap.size W V:=by rw[←hV];exact F6 ⟨rfl,rfl,rfl,by omega,fun _ _=>rfl⟩ (by omega)
  rw[hV];refine wpIn_mono (hbody _ pre x V hVi) ?_;rintro e a3 V3 hp
  cases e with
  |normal=>
   obtain⟨rfl,hi3⟩:=hp;have hr:=run_endRound (P:=P) none hVl;refine⟨_,_,hr,.inl ⟨rfl,⟨hIp _ _ _ _ hi3 (by omega),?_,(World.putObj_heap_other (by omega)).trans hVd⟩,F6 hVb (by omega)⟩⟩;rw[World.putObj_heap_same (Array.getElem?_eq_some_iff.1 hVl).1,hrc];rfl
  |ret=>
   obtain⟨hk3,hx3⟩:=hp;have hl3:=hk3.same _ _ hVl rfl;have hr:=run_endRound (P:=P) (some .ret) hl3;refine⟨_,_,hr,.inr ⟨rfl,hXp _ _ _ _ hx3 (by omega),?_,(World.putObj_heap_other (by omega)).trans (hk3.same _ _ hVd rfl)⟩⟩;rw[World.putObj_heap_same (Array.getElem?_eq_some_iff.1 hl3).1,hrc];rfl
  |_=>exact hp.elim
 ·rintro e W2 ⟨⟨v,rfl⟩,(⟨xs,hS,hi,hl,hd⟩|⟨pre,hSp,hx,hl,hd⟩)⟩
  ·have hr:=run_endLoop (P:=P) hl (by rw[hrc];simp)
   rw[hrc]at hr;exact⟨none,_,hr,hdone _ xs _ (by omega) hS (hIp _ _ _ _ hi (by omega)) ((World.putObj_heap_other (by omega)).trans hd)⟩
  ·have hr:=run_endLoop (P:=P) hl (by rw[hrc];simp)
   rw[hrc]at hr;exact⟨some .ret,_,hr,hstop _ pre _ (by omega) hSp (hXp _ _ _ _ hx (by omega)) ((World.putObj_heap_other (by omega)).trans hd)⟩
end Go.VS
